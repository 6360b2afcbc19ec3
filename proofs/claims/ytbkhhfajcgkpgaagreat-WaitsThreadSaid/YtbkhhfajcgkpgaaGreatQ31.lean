/- Part 31 of the proof. No condition of its own. -/
import Derived.Test.YtbkhhfajcgkpgaaGreatQ24
import Derived.Test.YtbkhhfajcgkpgaaGreatQ30
namespace Go.Proofs.YtbkhhfajcgkpgaaGreat
open Go.RowKit Go.Proofs.Tryz
set_option maxRecDepth 1000000
set_option maxHeartbeats 25600000
set_option linter.unusedVariables false
variable{bc:Ks}{B L a8 bG bN on u:Nat}{M P:Nat→Prop}{bs o:Kr}{J ac w:World}{p:j7}
def kR(n:Nat):Code→Option Code
 | .block k c=>if k=n then some c else kR n c
 | .seq a b=>match kR n a with
  | some c=>some c
  | none=>kR n b
 | .loop c=>kR n c
 | .scope c=>kR n c
 | _=>none
noncomputable def wu:Code:=((Tryz.f97.body.bind fB).getD .skip)
noncomputable def Dx:Code:=((kR 2 wu).getD .skip)
noncomputable def GN:Code:=match Dx with
 | .seq a _=>a
 | c=>c
noncomputable def GQ:Code:=match Dx with
 | .seq _ b=>b
 | _=>.skip
def j7.env(p:j7)(ps:List (ByteArray×Bool)):Env:=⟨p.M,ps,p.F.map fun f=>(f.name,f.params)⟩
structure oa(p:j7)(J w:World)(L:Nat):Prop where
 src:b0 w p.s p.A p.n p.c p.l
 blk:af w p.wb 170 #[.pointer (some ⟨p.s,0,none⟩),.slice p.GA p.gn p.gc,.slice p.MA p.mn p.mc,.slice p.FA p.fn p.fc,.int .i64 L,.bool p.ar]
 fr:Fr p.MW J w
 le:L≤24
theorem oa.wr(h0:gd J p bN)(h:oa p J w L):gd w p L:=
 ⟨h.src,h.blk,h0.ne,Sl.cO h0.ms h.fr,Sl.cO h0.fs h.fr,h0.nm,h0.nf,h0.gm,h0.jm,h.le⟩
theorem oa.next(h:oa p J w L)(a1:p.s<p.wb)(hs:b0 ac p.s p.A p.n p.c p.l)(O:Fr (fun b=>b=p.s) w ac):oa p J ac L:=
 ⟨hs,h.blk.on O ab,h.fr.trans (O.mono fun _ h=>.inl h),h.le⟩
theorem oa.ak(h:oa p J w L)(a1:p.s<p.wb)(O:Ext w ac):oa p J ac L:=h.next a1 (h.src.cG O fun _ _ h=>h) (O.mono fun _ h=>h.elim)
theorem oa.fresh(h:oa p J w L)(h0:gd J p bN)(O:Fr M w ac)(hM:∀b,M b→J.heap.size≤b):oa p J ac L:=by
 have ae:=h0.src.lt;have aC:=h0.blk.lt;exact⟨h.src.cG O fun b bF hm=>by have:=hM b hm;omega,h.blk.on O fun hm=>by have:=hM _ hm;omega,h.fr.eB (O.below h.fr.size fun k aj hm=>by have:=hM k hm;omega),h.le⟩
theorem oa.GI{X:Nat}(h:oa p J w L)(hw:gd ac p X)(O:Fr p.MW w ac):oa p J ac X:=⟨hw.src,hw.blk,h.fr.trans O,hw.kr⟩
def E9(p:j7)(d:Nat)(V T:Ks)(ps:List (ByteArray×Bool))(L:Nat)(w:World)(e:Ending)(ac:World):Prop:=
 ∃(ls:List ax) (X:Nat) (bs:Kr) (on bG:Nat),e=.returned (.slice bs on bG)∧Made (p.env ps) d V T L X ls∧on≤bG∧Sl ac (fresh w ac) bs on (ls.map a2)∧gd ac p X∧Fr p.MW w ac
def G2(p:j7)(L:Nat):Prop:=∀(d f:Nat) (V T:Ks) (R:Kr) (a8 bf:Nat) (aY:ByteArray) (ps:List (ByteArray×Bool)) (QA:Kr) (ca qc:Nat) (bI:Value) (w:World),d≤2→f≤6→gd w p L→Sl w (off p.MW w) R a8 (V.map D.s)→V.length+L≤60→l0 T L→
 Sl w (off p.MW w) QA ca (ps.map df)→ca≤2→Calls prog 97 #[.pointer (some ⟨p.wb,0,none⟩),.agg #[.string aY,.slice QA ca qc,bI],.slice R a8 bf,.int .i64 (d:Int),.int .i64 (f:Int)] w (E9 p d V T ps L w)
def gJ(p:j7)(aB B:Nat)(b7 be:Value)(d:Nat)(ps:List (ByteArray×Bool))(V T:Ks)(ls:List ax)(N:Int)(J:World)(L:Nat)(W:World)(aY:ByteArray)(QA:Kr)(ca qc:Nat)(bI:Value)(o:Kr)(a8 u:Nat)(bs:Kr)(on bG:Nat)(w:World):Prop:=∃(bc:Ks) (m:List ax) (st:ax) (bE:Nat) (cs:List Value),
 oa p W w bE∧af w aB 143 #[.string aY,.slice QA ca qc,bI]∧k4 B 9 1 192 11 w o a8 u (bc.map D.s) bs on bG ((ls++m).map a2)∧af w J.heap.size 192 cs.toArray∧(a2 st).rep w (lg (fun b=>B≤b∧(Value.slice o a8 u).ownBlock≠some b) w (.slice bs on bG)) cs∧
 eN (p.env ps) d (V++decls ls) (T++decls ls) (.eA (m++[st]))∧(∀n∈(al.eA (m++[st])).all,∃k,bE≤k∧k<L+1∧n=gW k)∧(al.eA (m++[st])).num≤2*(L+1 - bE)∧bE≤L∧bc ⊆ V++decls (ls++(m++[st]))∧bc.length+bE≤60∧on≤12000
def lu(p:j7)(aB B:Nat)(b7 be:Value)(d:Nat)(ps:List (ByteArray×Bool))(V T:Ks)(ls:List ax)(N:Int)(J:World)(L:Nat)(W:World)(aY:ByteArray)(QA:Kr)(ca qc:Nat)(bI:Value)(a:Act)(w:World):Prop:=∃(o:Kr) (a8 u:Nat) (bs:Kr) (on bG:Nat) (gC Z u8 gF eH b9 u16 gj gk eJ eK eM eP eQ eR eS eT eU eV eW eX eY u32 e3 e5 e6 e7 e8 e9 fa fb fd fe ff fh fi fj fk fl fm fo fp fq fr fs ft fu fv fw fx fy fz fA fB u64 fC fD fE fF fG fH fI fL fM fN fO fP fQ fR fS fT fU fV fW fX fY fZ f3 f4 f5 f6 f7 f8 f9 ga gb ge gf gg gh H ag aI aR a6 a9 bf bh bi bo bx bK bP bQ bY bZ b1 b2 b3 cb cd cj ck cm co cp cq cr ct cu cv cx cy cz cA cC cD cE cF cG cH cI cJ cK cL cM cN cO cP cQ cR cS cT cU cV cW cX cY cZ c4 c5 c6 c7 c8 c9 da db dd de dg dh di dj dk dl dm dn dp dq dr ds dt du dx dy dB dC dD dE dF dG dH dI dJ dK dM dN dO dP dQ dR dS dT dU dV dX dY dZ d0 d1 d2 d3 d4 d5 d6 d7 d8 d9 ea eb ec ed ee ef eg eh ei ej ek el em en eo ep eq er es et eu ev ew ex ey ez eA eB eC eF eG bL:Value),gJ p aB B b7 be d ps V T ls N J L W aY QA ca qc bI o a8 u bs on bG w∧a=⟨#[.pointer (some ⟨p.wb,0,none⟩),b7,.slice o a8 u,.int .i64 (d:Int),be,gC,.pointer (some ⟨aB,0,none⟩),Z,u8,gF,eH,.slice bs on bG,.int .i64 N,.pointer (some ⟨J.heap.size,0,none⟩),bL,b9,u16,gj,gk,eJ,eK,eM,eP,eQ,eR,eS,eT,eU,eV,eW,eX,eY,u32,e3,e5,e6,e7,e8,e9,fa,fb,fd,fe,ff,fh,fi,fj,fk,fl,fm,fo,fp,fq,fr,fs,ft,fu,fv,fw,fx,fy,fz,fA,fB,u64,fC,fD,fE,fF,fG,fH,fI,fL,fM,fN,fO,fP,fQ,fR,fS,fT,fU,fV,fW,fX,fY,fZ,f3,f4,f5,f6,f7,f8,f9,ga,gb,ge,gf,gg,gh,H,ag,aI,aR,a6,a9,bf,bh,bi,bo,bx,bK,bP,bQ,bY,bZ,b1,b2,b3,cb,cd,cj,ck,cm,co,cp,cq,cr,ct,cu,cv,cx,cy,cz,cA,cC,cD,cE,cF,cG,cH,cI,cJ,cK,cL,cM,cN,cO,cP,cQ,cR,cS,cT,cU,cV,cW,cX,cY,cZ,c4,c5,c6,c7,c8,c9,da,db,dd,de,dg,dh,di,dj,dk,dl,dm,dn,dp,dq,dr,ds,dt,du,dx,dy,dB,dC,dD,dE,dF,dG,dH,dI,dJ,dK,dM,dN,dO,dP,dQ,dR,dS,dT,dU,dV,dX,dY,dZ,d0,d1,d2,d3,d4,d5,d6,d7,d8,d9,ea,eb,ec,ed,ee,ef,eg,eh,ei,ej,ek,el,em,en,eo,ep,eq,er,es,et,eu,ev,ew,ex,ey,ez,eA,eB,eC,eF,eG],[]⟩
theorem gJ.simple(p:j7)(aB B:Nat)(b7 be:Value)(d:Nat)(ps:List (ByteArray×Bool))(V T:Ks)(ls:List ax)(N:Int)(L:Nat)(W:World)(aY:ByteArray)(QA:Kr)(ca qc:Nat)(bI:Value)(h0:gd J p bN)(bv:p.wb<aB)(dw:aB<B)(hG:k4 B 9 1 192 11 J o a8 u (bc.map D.s) bs on bG (ls.map a2))
  (hV:bc ⊆ V++decls ls) (eO:bc.length+L+1≤60) (c2:on≤10000) (aL:B≤J.heap.size) {X:World} {bE:Nat} {st:ax} {cs:List Value} (hC:oa p J X bE) (a5:af X J.heap.size 192 cs.toArray) (aU:(a2 st).rep X (fresh J X) cs)
  (S:E3 (p.env ps) d (V++decls ls) (T++decls ls) st) (aK:∀n∈st.all,∃k,bE≤k∧k<L+1∧n=gW k) (z:st.num≤2*(L+1 - bE)) (hle:bE≤L) (a:Fr p.MW W J) (c:af J aB 143 #[.string aY,.slice QA ca qc,bI]):gJ p aB B b7 be d ps V T ls N J L W aY QA ca qc bI o a8 u bs on bG X:=by
 have a1:=h0.ne;refine⟨bc,[],st,bE,cs,⟨hC.src,hC.blk,a.trans hC.fr,hC.le⟩,c.on hC.fr (fun h=>by rcases h with h|h<;>omega),?_,a5,?_,?_,?_,?_,hle,?_,ab,ab⟩
 ·rw[Kf];exact hG.cO hC.fr fun b O _=>by rcases O with O|O<;>omega
 ·exact D.aF (fun b O=>⟨⟨by have:=O.1;omega,fun h=>by have:=(hG.one.lt h).2;have:=O.1;omega⟩,O.2,fun h=>by have:=(hG.two.lt h).2;have:=O.1;omega⟩) _ _ aU
 ·exact sV.2 S
 ·rw[Kg,all_cons];intro n hn;rcases JZ.1 hn with hn|hn
  ·exact aK n hn
  ·simp[al.eA,al.all] at hn
 ·rw[Kg,sC];exact z
 ·intro x hx;have:=hV hx;exact za
theorem Dh{f:az}{cs:List Value}(h:(dd f).rep w P cs):∃(A:Kr) (n c:Nat) (A2:Kr) (n2 c2:Nat),cs=[.string f.name,.slice A n c,.slice A2 n2 c2]∧n≤c∧Sl w P A n (f.params.map df):=by
 unfold dd at h;rw[bu,b9] at h;obtain⟨y,rfl,h⟩:=h;obtain⟨A,n,c,bm,rfl,hc,hs,h⟩:=aD.1 h;obtain⟨A2,n2,c2,aa,rfl,bJ,bz,h⟩:=aD.1 h;rw[aJ] at h;subst h;exact⟨A,n,c,A2,n2,c2,rfl,hc,hs⟩
theorem od:bX prog 141 192 (.agg #[.int .i64 0,.string ⟨#[]⟩,.int .i64 0,.int .i64 0,.string ⟨#[]⟩,.slice none 0 0,.string ⟨#[]⟩,.slice none 0 0,.slice none 0 0,.slice none 0 0,.slice none 0 0]) 11 192:=bX.mk' Tryz.underlying141 (by kernel_rfl) rfl ab
theorem D8{G:Env}{d:Nat}{ac T:Ks}{r:eF}{v:List ax}(aU:rH G bc r)(hV:bc ⊆ ac)(ae:eN G 0 bc T (.eA v)):eN G d ac T (.eA ((.lock false r::v)++[.lock true r])):=by
 rw[J5,mK];refine⟨kE hV aU,?_⟩;simp only[ax.decl,Kf];exact sU.2 ⟨cW _ 0 d bc _ _ _ hV (fun _ _ h=>h) (Kc _) ae,sV.2 (kE (fun x hx=>JZ.2 (.inl (hV hx))) aU)⟩
theorem bg{P:Program}{ops:Array Oper}{Q:Exit→Act→World→Prop}{R:World→World→Prop}{tails:List Nat}{rest:PT}{a:Act}{W:World}(C:World→Prop)(hC:C W)(h:∀V,C V→c5 P ops Q R tails rest a V):c5 P ops Q R tails rest a W:=h W hC
structure qv(p:j7)(J wr:World)(L:Nat)(cs:Array Value)(V:World):Prop where
 c:oa p J V L
 s:af V J.heap.size 192 cs
 f:Fr (fun b=>b=p.s∨b=J.heap.size) wr V
theorem qv.ak{p:j7}{J wr V ac:World}{L:Nat}{cs:Array Value}(h:qv p J wr L cs V)(a1:p.s<p.wb)(O:Ext V ac):qv p J wr L cs ac:=⟨h.c.ak a1 O,h.s.ak O,h.f.trans (O.mono fun _ h=>h.elim)⟩
theorem qv.call{wr V:World}{cs:Array Value}(h:qv p J wr L cs V)(a1:p.s<p.wb)(bF:p.s<J.heap.size)(hs:b0 ac p.s p.A p.n p.c p.l)(O:Fr (fun b=>b=p.s) V ac):qv p J wr L cs ac:=⟨h.c.next a1 hs O,h.s.on O ab,h.f.trans (O.mono fun _ h=>.inl h)⟩
theorem qv.aC{p:j7}{J wr V:World}{L bN:Nat}{cs:Array Value}(h:qv p J wr L cs V)(h0:gd J p bN)(i:Nat)(v:Value):qv p J wr L (cs.setIfInBounds i v) (V.setCell ⟨J.heap.size,i,none⟩ v):=
 ⟨h.c.fresh (M:=fun b=>b=J.heap.size) h0 ((Fr.refl (fun b=>b=J.heap.size) V).setCell (.inl rfl) _) (fun b O=>ab),h.s.aC i v,h.f.setCell (.inl (.inr rfl)) _⟩
theorem l7(V:World)(g:Nat)(v1 v2:Int)(h0:V.cell? ⟨g,0,none⟩=some (.int .u8 v1))(ae:V.cell? ⟨g,1,none⟩=some (.int .u8 v2)) :
  (convert 85 9 (.slice (some ⟨g,0,none⟩) 2 2)).run prog V=.ok (.string (strOf [byteOf v1,byteOf v2])) V:=by
 have:=run_convert_bytes_arg (P:=prog) V 85 5 Tryz.underlying85 Tryz.underlying5 g 0 2 2 [v1,v2] rfl (fun i al=>by
  obtain rfl|rfl:i=0∨i=1:=ab
  ·exact h0
  ·exact ae) 9 Tryz.underlying9
 rw[this];rfl
theorem uw{t I:Int}(bR:L≤24)(ae:IntKind.u8.wrap (IntKind.i64.wrap (97+(L:Int)))=t)(aC:IntKind.u8.wrap (IntKind.i64.wrap (97+Int.tmod (IntKind.i64.wrap 0) 26))=I):(⟨#[118]⟩++strOf [byteOf t,byteOf I]:ByteArray)=gW L:=by
 subst ae aC;have h:∀k:Fin 25,(⟨#[118]⟩++strOf [byteOf (IntKind.u8.wrap (IntKind.i64.wrap (97+((k.val:Nat):Int)))),byteOf (IntKind.u8.wrap (IntKind.i64.wrap (97+Int.tmod (IntKind.i64.wrap 0) 26)))]:ByteArray)=gW k.val:=by decide
 exact h ⟨L,ab⟩
theorem uk{w:World}{P Q:Nat→Prop}:∀{l:Ks} {xs:List Value},D.aI w P (l.map D.s) xs→D.aI w Q (l.map D.s) xs
 | [],xs,h=>by simpa only[Kd,D.aI] using h
 | e::l,xs,h=>by
  rw[JW] at h ⊢;obtain⟨y,rfl,a4⟩:=b9.1 h;exact b9.2 ⟨y,rfl,uk a4⟩
theorem Gr.strs{Q:Nat→Prop}{e:TypeId}{A:Kr}{n c:Nat}{l:Ks}(h:Gr P B e 1 w A n c (l.map D.s)):Gr Q B e 1 w A n c (l.map D.s):=by
 obtain⟨hl,xs,ae,aC⟩:=h;exact⟨hl,xs,ae,uk aC⟩
theorem vl(s:ax):(a2 s).sz=11:=by
 cases s<;>simp[a2,gp,D.sz,D.yr,cZ,jA,fE,km]
theorem lS:jA.rep w P [.int .i64 0,.int .i64 0,.string ⟨#[]⟩,.slice none 0 0]:=eT.2 ⟨none,0,rfl⟩
theorem ky:fE.rep w P [.string ⟨#[]⟩,.slice none 0 0]:=by
 exact yM
theorem ei{k:Int}{nm:ByteArray}{e r:D}{aS th el:List D}{e0 e1 e2 e3 bv r1:Value}{ce A2 cf:Kr}{n1 n2 n3 c1 c2 c3:Nat}(he:e.rep w P [e0,e1,e2,e3])(aU:r.rep w P [bv,r1])(ae:Sl w P ce n1 aS)(cF:n1≤c1)(aC:Sl w P A2 n2 th)(N:n2≤c2)(aT:Sl w P cf n3 el)(a:n3≤c3):
  (gp k nm e r aS th el).rep w P [.int .i64 k,.string nm,e0,e1,e2,e3,bv,r1,.slice ce n1 c1,.slice A2 n2 c2,.slice cf n3 c3]:=by
 unfold gp;rw[bu];exact aZ.2 ⟨_,rfl,b9.2 ⟨_,rfl,gD.2 ⟨[e0,e1,e2,e3],_,rfl,he,gD.2 ⟨[bv,r1],_,rfl,aU,aD.2 ⟨ce,n1,c1,_,rfl,cF,ae,aD.2 ⟨A2,n2,c2,_,rfl,N,aC,aD.2 ⟨cf,n3,c3,[],rfl,a,aT,aJ.2 rfl⟩⟩⟩⟩⟩⟩⟩
theorem k4.names{l:List D}{e1 e2:TypeId}{a9:Nat}(h:k4 B e1 1 e2 a9 w o a8 u (bc.map D.s) bs on bG l)(hM:∀b,M b→b<B):Sl w (off M w) o a8 (bc.map D.s):=
 h.one.sl (fun b O hp=>⟨O,fun hm=>by have:=hM b hm;have:=hp.1;omega⟩) (fun b O hp=>⟨O,fun hm=>by have:=hM b hm;omega⟩)
def SK(k:Int)(d a8:Nat):Prop:=∀(p:j7) (aB B:Nat) (b7 be:Value) (ps:List (ByteArray×Bool)) (V T:Ks) (ls:List ax) (N:Int) (J:World) (L:Nat) (W:World) (aY:ByteArray) (QA:Kr) (ca qc:Nat) (bI:Value) (bc:Ks) (o:Kr) (u:Nat) (bs:Kr) (on bG:Nat) (bN:Nat) (bv:p.wb<aB) (dw:aB<B) (aL:B≤J.heap.size) (bm:ca≤2) (wr:World) (a1:p.s<p.wb) (b4:p.s<J.heap.size) (eI:p.wb<J.heap.size) (cg:bc.length=a8) (nH:J.heap.size≤wr.heap.size) (au:Kt (gd J p bN∧af J aB 143 #[.string aY,.slice QA ca qc,bI]∧Sl J (off p.MW J) QA ca (ps.map df)∧k4 B 9 1 192 11 J o a8 u (bc.map D.s) bs on bG (ls.map a2)∧Sl J (off p.MW J) o a8 (bc.map D.s)∧∀b,p.MW b→b<B)) (bL:Kt (oa p J wr L∧af wr aB 143 #[.string aY,.slice QA ca qc,bI]∧af wr J.heap.size 192 #[.int .i64 5,.string ⟨#[]⟩,.int .i64 0,.int .i64 0,.string ⟨#[]⟩,.slice none 0 0,.string ⟨#[]⟩,.slice none 0 0,.slice none 0 0,.slice none 0 0,.slice none 0 0])) (eO:bc.length+L+1≤60) (c2:on≤10000) (bX:d≤2) (cc:Kt (bc ⊆ V++decls ls∧l0 (T++decls ls) (L+1)∧∀X,X≤L→G2 p X)) (aM:Nat) (bd:Kt (gd W p aM∧Sl W (off p.MW W) QA ca (ps.map df)∧Fr p.MW W J)) (bV:W.heap.size≤aB)
  (Q:Exit→Act→World→Prop) (hQ0:∀c a d v w,Q (.panic c) (a.put d v) w→Q (.panic c) a w) (hN:∀a w,lu p aB B b7 be d ps V T ls N J L W aY QA ca qc bI a w→Q .normal a w) (K:Act→World→Prop) (hK:∀a w,Code.wp prog GQ Q a w→K a w)
  {gC Z u8 gF eH b9 u16 gj gk eJ eK eM eP eQ eR eS eT eU eV eW eX eY u32 e3 e5 e6 e7 e8 e9 fa fb fd fe ff fh fi fj fk fl fm fo fp fq fr fs ft fu fv fw fx fy fz fA fB u64 fC fD fE fF fG fH fI fL fM fN fO fP fQ fR fS fT fU fV fW fX fY fZ f3 f4 f5 f6 f7 f8 f9 ga gb ge gf gg gh H ag aI aR a6 a9 bf bh bi bo bx bK bP bQ bY bZ b1 b2 b3 cb cd cj ck cm co cp cq cr ct cu cv cx cy cz cA cC cD cE cF cG cH cI cJ cK cL cM cN cO cP cQ cR cS cT cU cV cW cX cY cZ c4 c5 c6 c7 c8 c9 da db dd de dg dh di dj dk dl dm dn dp dq dr ds dt du dx dy dB dC dD dE dF dG dH dI dJ dK dM dN dO dP dQ dR dS dT dU dV dX dY dZ d0 d1 d2 d3 d4 d5 d6 d7 d8 d9 ea eb ec ed ee ef eg eh ei ej ek el em en eo ep eq er es et eu ev ew ex ey ez eA eB eC eF eG:Value},
  Code.wp prog GN (Exit.then K Q) ⟨#[.pointer (some ⟨p.wb,0,none⟩),b7,.slice o a8 u,.int .i64 (d:Int),be,gC,.pointer (some ⟨aB,0,none⟩),Z,u8,gF,eH,.slice bs on bG,.int .i64 N,.pointer (some ⟨J.heap.size,0,none⟩),(.int .i64 k),b9,u16,gj,gk,eJ,eK,eM,eP,eQ,eR,eS,eT,eU,eV,eW,eX,eY,u32,e3,e5,e6,e7,e8,e9,fa,fb,fd,fe,ff,fh,fi,fj,fk,fl,fm,fo,fp,fq,fr,fs,ft,fu,fv,fw,fx,fy,fz,fA,fB,u64,fC,fD,fE,fF,fG,fH,fI,fL,fM,fN,fO,fP,fQ,fR,fS,fT,fU,fV,fW,fX,fY,fZ,f3,f4,f5,f6,f7,f8,f9,ga,gb,ge,gf,gg,gh,H,ag,aI,aR,a6,a9,bf,bh,bi,bo,bx,bK,bP,bQ,bY,bZ,b1,b2,b3,cb,cd,cj,ck,cm,co,cp,cq,cr,ct,cu,cv,cx,cy,cz,cA,cC,cD,cE,cF,cG,cH,cI,cJ,cK,cL,cM,cN,cO,cP,cQ,cR,cS,cT,cU,cV,cW,cX,cY,cZ,c4,c5,c6,c7,c8,c9,da,db,dd,de,dg,dh,di,dj,dk,dl,dm,dn,dp,dq,dr,ds,dt,du,dx,dy,dB,dC,dD,dE,dF,dG,dH,dI,dJ,dK,dM,dN,dO,dP,dQ,dR,dS,dT,dU,dV,dX,dY,dZ,d0,d1,d2,d3,d4,d5,d6,d7,d8,d9,ea,eb,ec,ed,ee,ef,eg,eh,ei,ej,ek,el,em,en,eo,ep,eq,er,es,et,eu,ev,ew,ex,ey,ez,eA,eB,eC,eF,eG],[]⟩ wr
namespace Bo
theorem oQ{p:Prop}(h:p:=by
 exact gJ.simple (st:=.lock c8 r) ⟨s,wb,sA,bQ,a7,sl,GA,gn,gc,MA,mn,mc,FA,fn,fc,M,F,ar⟩ aB B b7 be d ps V T ls N L W aY QA ca qc bI au.1 bv dw au.2.2.2.1 cc.1 eO c2 aL (bf.fresh au.1 aD fun b O=>ab) aG
  (ei lS (jl.2 ⟨IA,i,ic,rfl,aA,(aa.aj fun b O=>aD.block b O.2 (aH O.1)).mono fun b O=>⟨by have:=O.1;omega,by have:=O.2;omega⟩⟩) (Sl.bG _) (JQ _) (Sl.bG _) (JQ _) (Sl.bG _) (JQ _)) (kE cc.1 (S _)) (fun n hn=>by simp[ax.all] at hn) (by simp only[ax.num];omega) (JQ _) bd.2.2 au.2.1
 ):p:=h
theorem ly{p:Prop}(h:p:=by
 first
  | have bq:decide (k<4)=true:=by simpa using aj.2
  | have bq:decide (k<4)=false:=by simpa using aj.2.1
    have a9:decide (k<7)=true:=by simpa using aj.2.2
 have ay:=ad aj.1;clear aj;go_wp2_with(fail);refine(qq ⟨s,wb,sA,bQ,a7,sl,GA,gn,gc,MA,mn,mc,FA,fn,fc,M,F,ar⟩ L bc o a8 u aY ps QA ca qc bI wr (bL.1.wr au.1) ((Sl.cO au.2.2.2.2.1 bL.1.fr).mono fun b O=>⟨O.1,fun h=>O.2 (.inl h)⟩) ab ((Sl.cO au.2.2.1 bL.1.fr).mono fun b O=>⟨O.1,fun h=>O.2 (.inl h)⟩) bm).mono ?_;rintro e aO ⟨r,IA,i,ic,rfl,S,aA,aa,av,t⟩;simp only at S av t;have l:=bL.2.2.on t ab;have aX:=dQ (bL.1.next a1 av t) l S aA aa t.size;clear a0 ap ak a6 am aI d0 ag aR S aA aa av t;obtain⟨d0,ag,aR⟩:=l.two;clear l;go_wp2_with(fail);generalize hX:World.setCell _ _ _=X;have aD:Fr (fun b=>b=J.heap.size) aO X:=by rw[←hX];first|exact((Fr.refl (fun b=>b=J.heap.size) aO).setCell (.inl rfl) _).setCell (.inl rfl) _|exact(((Fr.refl (fun b=>b=J.heap.size) aO).setCell (.inl rfl) _).setCell (.inl rfl) _).setCell (.inl rfl) _
 have aG:af X J.heap.size 192 #[.int .i64 (if c8 then 6 else 5),.string ⟨#[]⟩,.int .i64 0,.int .i64 0,.string ⟨#[]⟩,.slice none 0 0,.string r.name,.slice IA i ic,.slice none 0 0,.slice none 0 0,.slice none 0 0]:=by rw[←hX,ay.o];first|exact(aX.2.1.aC 6 _).aC 7 _|exact((aX.2.1.aC 0 _).aC 6 _).aC 7 _
 clear hX d0 ag aR;obtain⟨bf,_,S,aA,aa,bz⟩:=aX.o;have bE:=aD.size;have bg:=bL.2.2.lt;exact oP
 ):p:=h
end Bo
open Bo in
theorem Dy(c8:Bool)(k:Int)(d a8:Nat)(h:(c8=false∧k<4)∨c8=true∧¬k<4∧k<7):SK k d a8:=by
 rcases h with aj|aj
 all_goals
  exact lx
namespace Bp
theorem gq{p:Prop}(h:p:=by
 refine cw ?_;generalize hX:World.setCell _ _ _=X;have aD:Fr (fun b=>b=J.heap.size) cz X:=hX▸(Fr.refl (fun b=>b=J.heap.size) cz).setCell (.inl rfl) _;have bh:af X J.heap.size 192 #[.int .i64 1,.string (gW L),.int .i64 z.aU,.int .i64 z.numOf,.string z.a1,.slice cB cp zc,.string ⟨#[]⟩,.slice none 0 0,.slice none 0 0,.slice none 0 0,.slice none 0 0]:=by
  have ae:=aO.s.aC 1 (.string (⟨#[118]⟩++strOf [byteOf t,byteOf I]));rw[uw ab aK.1 aK.2] at ae;rw[←hX]
  try rw[uw ab aK.1 aK.2]
  exact ae
 have H:=aO.c.fresh au.1 aD fun b O=>ab;have bo:Sl X (fun b=>J.heap.size<b∧b<X.heap.size) cB cp (z.args.map bb):=(cT.aj fun b O=>aD.block b O.2 (aH O.1)).mono fun b O=>⟨O.1,JR O.2 aD.size⟩
 have j:∀b,(Value.slice o a8 u).ownBlock=some b→B≤b∧b<J.heap.size:=fun b O=>au.2.2.2.1.one.lt O;have ba:Gr (fun _=>False) B 9 1 X o a8 u (bc.map D.s):=((Gr.strs (Q:=fun _=>False) au.2.2.2.1.one).cO aO.c.fr fun b O hl=>⟨fun h=>h,au.2.2.2.2.2 b O⟩).c7 aD.size fun b aw hp=>aD.block b aw (hp.elim (fun h=>h.elim) fun hp=>by have:=j b hp;omega);have aP:=iE bh H bo ba bi bF aD.size;have cr:=ad j;have cF:J.heap.size<X.heap.size:=bh.lt;have bO:B≤X.heap.size:=ab;clear hX aD bh H bo ba j bi bF aO cT d0 ag aR;obtain⟨d0,ag,aR⟩:=aP.1.two;go_wp2_with(at_builtin;refine bR kd rfl (.tmp 114) (.tmp 117) rfl aP.2.2.2.1 (tW.2 rfl) rfl rfl rfl ab ab bO ?_;intro dn co cx an ay b8 bJ;have dm:=aQ an ay b8;clear an ay b8 bJ);obtain⟨bn,az,bp⟩:=dm.o;obtain⟨bh,H,bo,ba,bi,bF,cu⟩:=aP.o;have j:=cr.o;have m:∀b,(Value.slice bs on bG).ownBlock=some b→B≤b∧b<J.heap.size:=fun b O=>au.2.2.2.1.two.lt O;have aq:=au.2.2.2.1.ne;have aN:∀b,(Value.slice dn (a8+1) co).ownBlock=some b→(b<J.heap.size∧(Value.slice o a8 u).ownBlock=some b)∨X.heap.size≤b:=fun b O=>(bp b O).imp (fun h=>⟨(j b h).2,h⟩) id;have aS:¬(Value.slice o a8 u).ownBlock=some J.heap.size:=fun h=>by have:=(j _ h).2;omega
 have cs:=az.size;have cA:L≤24:=H.le
 try refine hN _ _ ?_
 unfold lu;refine⟨dn,a8+1,co,bs,on,bG,?_⟩
 iterate 240 apply Exists.intro
 refine⟨?_,rfl⟩;refine⟨bc++[gW L],[],.set true (gW L) z,L,_,(oa.mk H.src H.blk (bd.2.2.trans H.fr) H.le).fresh bd.1 az (fun b O=>by have:=(j b O).1;omega),(au.2.1.on H.fr (fun h=>by rcases h with h|h<;>(simp only at h;omega))).on az (fun h=>by have:=(j _ h).1;omega),⟨?_,?_,fun b O h=>?_⟩,bh.on az aS,?_,?_,?_,?_,JQ _,?_,by simp;omega,ab⟩
 ·rw[JX,JW,Kd];have:=Gr.strs (l:=bc++[gW L]) (Q:=fun b=>B≤b∧(Value.slice bs on bG).ownBlock≠some b) (by rw[JX,JW,Kd];exact bn)
  rwa [JX,JW,Kd] at this
 ·rw[Kf];have ae:Gr (fun b=>(B≤b∧(Value.slice o a8 u).ownBlock≠some b)∧b<J.heap.size) B 192 11 J bs on bG (ls.map a2):=au.2.2.2.1.two.mono fun b O hp=>⟨hp,O⟩
  have aC:=ae.cO H.fr fun b O hl=>⟨fun h=>by have:=au.2.2.2.2.2 b O;have:=h.1.1;omega,au.2.2.2.2.2 b O⟩
  have aT:=aC.c7 az.size fun b aw hp=>az.block b aw (fun bD=>hp.elim (fun h=>h.1.2 bD) (fun h=>aq b bD h));exact aT.mono fun b _ hp=>⟨hp.1.1,fun h=>by
   rcases aN b h with a9|a9
   ·exact hp.1.2 a9.2
   ·have:=hp.2;omega⟩
 ·rcases aN b O with a9|a9
  ·exact aq b a9.2 h
  ·have:=(m b h).2;omega
 ·refine ei (aV.2 ⟨cB,cp,zc,rfl,bF,?_⟩) ky (Sl.bG _) (JQ _) (Sl.bG _) (JQ _) (Sl.bG _) (JQ _);refine(bo.aj fun b O=>az.block b O.2 fun h=>by have:=(j b h).2;have:=O.1;omega).mono fun b O=>⟨⟨by have:=O.1;omega,fun h=>?_⟩,by have:=O.2;omega,fun h=>by have:=(m b h).2;have:=O.1;omega⟩
  have ae:=O.1;have aC:=O.2;rcases aN b h with a9|a9<;>omega
 ·exact sV.2 ⟨DE ab,cc.2.1 L ab,dy cc.1 2 z bi⟩
 ·intro n hn;rw[Kg,all_cons] at hn;simp only[ax.all,al.eA,al.all,Kf,Kh] at hn;exact⟨L,JQ _,ab,hn⟩
 ·rw[Kg,sC];simp only[ax.num];omega
 ·intro y a4;rw[Kg,qV,←List.append_assoc];rcases JZ.1 a4 with a4|a4
  ·exact JZ.2 (.inl (cc.1 a4))
  ·simp only[Kh] at a4;subst a4;exact JZ.2 (.inr (by simp[decls,ax.decl]))
 ):p:=h
theorem ly{p:Prop}(h:p:=by
 have cn:L≤24:=bL.1.le;have gK:¬(wb=s∨wb=J.heap.size):=ab;have cC:J.heap.size<wr.heap.size:=bL.2.2.lt;have bZ:Int.tmod (L:Int) 26=(L:Int):=Int.tmod_eq_of_lt ab ab;have bH:Int.tdiv (L:Int) 26=0:=Int.tdiv_eq_zero_of_lt ab ab;go_upto_region 19 with(fail);refine tX (fun b=>b=s∨b=J.heap.size) [26] (.free 0 (.free 1 (.free 3 (.free 4 (.free 5 (.held 6 (.free 7 (.free 8 (.free 9 (.free 10 (.free 11 (.free 12 (.held 13 (.free 14 (.free 15 (.free 16 (.free 17 (.free 21 (.pick [2,18] (fun i=>bif i == 2 then .pick [18,22] (fun i=>bif i == 18 then .held 19 (.free 20 (.pick [22] (fun _=>.free 23 (.pick [24] (fun _=>.free 25 (.pick [26] (fun _=>.stop))))))) else .free 23 (.pick [18,24] (fun i=>bif i == 18 then .held 19 (.free 20 (.pick [24] (fun _=>.free 25 (.pick [26] (fun _=>.stop))))) else .pick [18] (fun _=>.held 19 (.free 20 (.free 25 (.pick [26] (fun _=>.stop)))))))) else .held 19 (.free 20 (.pick [2] (fun _=>.pick [22] (fun _=>.free 23 (.pick [24] (fun _=>.free 25 (.pick [26] (fun _=>.stop)))))))))))))))))))))))))))) ?_
 iterate 5 refine tf ?_
 refine n8 ?_
 iterate 6 refine tf ?_
 refine n8 ?_
 iterate 5 refine tf ?_
 have U:Kt (qv ⟨s,wb,sA,bQ,a7,sl,GA,gn,gc,MA,mn,mc,FA,fn,fc,M,F,ar⟩ J wr L #[.int .i64 5,.string ⟨#[]⟩,.int .i64 0,.int .i64 0,.string ⟨#[]⟩,.slice none 0 0,.string ⟨#[]⟩,.slice none 0 0,.slice none 0 0,.slice none 0 0,.slice none 0 0] wr):=ad ⟨bL.1,bL.2.2,Kn⟩;clear a0 ap ak a6 am aI d0 ag aR;generalize bx:IntKind.u8.wrap (IntKind.i64.wrap (97+(L:Int)))=t;generalize bz:IntKind.u8.wrap (IntKind.i64.wrap (97+Int.tmod (IntKind.i64.wrap 0) 26))=I;have aK:=ai bx bz;clear bx bz;have bE:(strOf [byteOf t,byteOf I]).size=2:=aG _;refine qi (P:=?oK) (ops:=?G4) (Q:=?G6) (R:=?G7) (tails:=?G8) (rest:=.free 25 (.pick [26] (fun _=>.stop))) (aa:=?G3)
  (C:=fun(aX:Nat) (Y:Value) dz=>∃(z:VE) (cB:Kr) (cp zc:Nat),Y=.agg #[.int .i64 z.aU,.int .i64 z.numOf,.string z.a1,.slice cB cp zc]∧qv ⟨s,wb,sA,bQ,a7,sl,GA,gn,gc,MA,mn,mc,FA,fn,fc,M,F,ar⟩ J wr L #[.int .i64 1,.string ⟨#[]⟩,.int .i64 z.aU,.int .i64 z.numOf,.string z.a1,.slice cB cp zc,.string ⟨#[]⟩,.slice none 0 0,.slice none 0 0,.slice none 0 0,.slice none 0 0] dz∧Sl dz (fun b=>J.heap.size<b∧b<dz.heap.size) cB cp (z.args.map bb)∧z.src bc 2∧cp≤zc) (fun key=>?x6) ?xZ
 case x6=>
  refine bq ?_ ?_
  ·
   refine aE rfl (fun K hK=>?_) rfl;go_simp;refine(jz ⟨s,wb,sA,bQ,a7,sl,GA,gn,gc,MA,mn,mc,FA,fn,fc,M,F,ar⟩ L bc o a8 u _ ((U.c.ak a1 (Kn.drew)).wr au.1) ((Sl.cO au.2.2.2.2.1 (U.c.ak a1 (Kn.drew)).fr).mono fun b O=>⟨O.1,fun h=>O.2 (.inl h)⟩) ab).mono ?_;rintro e v1 ⟨x,cl,ck,ct,rfl,hx,S,bY,h,he⟩
   try simp only at h he
   have aU:Fr (fun b=>b=s) wr v1:=Fr.aO he;have ac:=ad (U.call a1 b4 h aU);have aP:=ai hx S;have bk:=ad ((bY.mono fun b O=>(⟨by have:=U.s.lt;have:=O.1;have:wr.drew.heap.size=wr.heap.size:=rfl;omega,O.2⟩:J.heap.size<b∧b<v1.heap.size)));refine dW hK (he.mono fun _ h=>.inl h) ?_;clear hK K;clear hx S bY h he aU;refine bq ?_ ?_
   ·
    refine eZ ?_;refine bg (fun V=>Ext v1 V∧af V v1.heap.size 5 #[.int .u8 t,.int .u8 I]) ⟨Kn.alloc _,Ko⟩ (fun v2 hV=>?_);have br:=ad (ac.ak a1 hV.1);have bf:=ad hV.2;have cW:J.heap.size<v1.heap.size:=ac.s.lt;have b5:=ad ((bk.aj fun b O=>hV.1.block b O.2 fun h=>h).mono fun b O=>(⟨O.1,JR O.2 hV.1.size⟩:J.heap.size<b∧b<v2.heap.size));clear hV;obtain⟨e0,a5,aZ⟩:=bf.two;refine cf (v:=?_) rfl (by rfl) (fun V hV=>?_) ?_;rotate_left
    ·have bU:=l7 V v1.heap.size t I ((hV.cell aZ ab).trans (e0 0)) ((hV.cell aZ ab).trans (e0 1))
     (go_simp<;>with_reducible rfl)
    try simp only[PU]
    clear e0 a5 aZ;refine tf ?_;refine ao ?_;obtain⟨d0,ag,aR⟩:=br.s.two;refine aE rfl (fun K hK=>?_) rfl;go_simp;refine dW hK (Kn.setCell (.inl (.inr rfl)) _) ?_;clear hK K;refine bg (fun V=>qv ⟨s,wb,sA,bQ,a7,sl,GA,gn,gc,MA,mn,mc,FA,fn,fc,M,F,ar⟩ J wr L #[.int .i64 1,.string ⟨#[]⟩,.int .i64 0,.int .i64 0,.string ⟨#[]⟩,.slice none 0 0,.string ⟨#[]⟩,.slice none 0 0,.slice none 0 0,.slice none 0 0,.slice none 0 0] V∧Fr (fun b=>b=J.heap.size) v2 V) ⟨by exact br.aC au.1 0 _,by exact(Fr.refl (fun b=>b=J.heap.size) v2).setCell (.inl rfl) _⟩ (fun r hV=>?_);have bt:=ad hV.1;have b6:=ad ((b5.aj fun b O=>hV.2.block b O.2 (aH O.1)).mono fun b O=>(⟨O.1,JR O.2 hV.2.size⟩:J.heap.size<b∧b<r.heap.size));have b1:=ad (bf.on hV.2 ab);clear hV d0 ag aR;refine tf ?_;refine ao ?_;obtain⟨d0,ag,aR⟩:=bt.s.two;refine aE rfl (fun K hK=>?_) rfl;go_simp;refine dW hK ((((Kn.setCell (.inl (.inr rfl)) _).setCell (.inl (.inr rfl)) _).setCell (.inl (.inr rfl)) _).setCell (.inl (.inr rfl)) _) ?_;clear hK K;refine bg (fun V=>qv ⟨s,wb,sA,bQ,a7,sl,GA,gn,gc,MA,mn,mc,FA,fn,fc,M,F,ar⟩ J wr L #[.int .i64 1,.string ⟨#[]⟩,.int .i64 x.aU,.int .i64 x.numOf,.string x.a1,.slice cl ck ct,.string ⟨#[]⟩,.slice none 0 0,.slice none 0 0,.slice none 0 0,.slice none 0 0] V∧Fr (fun b=>b=J.heap.size) r V) ⟨by exact(((bt.aC au.1 2 _).aC au.1 3 _).aC au.1 4 _).aC au.1 5 _,by exact((((Fr.refl (fun b=>b=J.heap.size) r).setCell (.inl rfl) _).setCell (.inl rfl) _).setCell (.inl rfl) _).setCell (.inl rfl) _⟩ (fun v4 hV=>?_)
    have ci:=ad hV.1;have b9:=ad ((b6.aj fun b O=>hV.2.block b O.2 (aH O.1)).mono fun b O=>(⟨O.1,JR O.2 hV.2.size⟩:J.heap.size<b∧b<v4.heap.size));have cv:=ad (b1.on hV.2 ab);clear hV d0 ag aR;have aF:=And.intro ci.o (And.intro b9.o aP.o);have aW:∃(z:VE) (cB:Kr) (cp zc:Nat),(Value.agg #[.int .i64 x.aU,.int .i64 x.numOf,.string x.a1,.slice cl ck ct])=.agg #[.int .i64 z.aU,.int .i64 z.numOf,.string z.a1,.slice cB cp zc]∧qv ⟨s,wb,sA,bQ,a7,sl,GA,gn,gc,MA,mn,mc,FA,fn,fc,M,F,ar⟩ J wr L #[.int .i64 1,.string ⟨#[]⟩,.int .i64 z.aU,.int .i64 z.numOf,.string z.a1,.slice cB cp zc,.string ⟨#[]⟩,.slice none 0 0,.slice none 0 0,.slice none 0 0,.slice none 0 0] v4∧Sl v4 (fun b=>J.heap.size<b∧b<v4.heap.size) cB cp (z.args.map bb)∧z.src bc 2∧cp≤zc:=⟨x,cl,ck,ct,rfl,aF⟩
    revert aW;generalize v1.heap.size=aX;exact wJ
   ·
    obtain⟨d0,ag,aR⟩:=ac.s.two;refine aE rfl (fun K hK=>?_) rfl;go_simp;refine dW hK (Kn.setCell (.inl (.inr rfl)) _) ?_;clear hK K;refine bg (fun V=>qv ⟨s,wb,sA,bQ,a7,sl,GA,gn,gc,MA,mn,mc,FA,fn,fc,M,F,ar⟩ J wr L #[.int .i64 1,.string ⟨#[]⟩,.int .i64 0,.int .i64 0,.string ⟨#[]⟩,.slice none 0 0,.string ⟨#[]⟩,.slice none 0 0,.slice none 0 0,.slice none 0 0,.slice none 0 0] V∧Fr (fun b=>b=J.heap.size) v1 V) ⟨by exact ac.aC au.1 0 _,by exact(Fr.refl (fun b=>b=J.heap.size) v1).setCell (.inl rfl) _⟩ (fun bP hV=>?_);have ah:=ad hV.1;have bl:=ad ((bk.aj fun b O=>hV.2.block b O.2 (aH O.1)).mono fun b O=>(⟨O.1,JR O.2 hV.2.size⟩:J.heap.size<b∧b<bP.heap.size));clear hV d0 ag aR;refine tf ?_;refine bq ?_ ?_
    ·
     refine eZ ?_;refine bg (fun V=>Ext bP V∧af V bP.heap.size 5 #[.int .u8 t,.int .u8 I]) ⟨Kn.alloc _,Ko⟩ (fun v6 hV=>?_);have bu:=ad (ah.ak a1 hV.1);have bj:=ad hV.2;have cW:J.heap.size<bP.heap.size:=ah.s.lt;have cb:=ad ((bl.aj fun b O=>hV.1.block b O.2 fun h=>h).mono fun b O=>(⟨O.1,JR O.2 hV.1.size⟩:J.heap.size<b∧b<v6.heap.size));clear hV;obtain⟨e0,a5,aZ⟩:=bj.two;refine cf (v:=?_) rfl (by rfl) (fun V hV=>?_) ?_;rotate_left
     ·have bU:=l7 V bP.heap.size t I ((hV.cell aZ ab).trans (e0 0)) ((hV.cell aZ ab).trans (e0 1))
      (go_simp<;>with_reducible rfl)
     try simp only[PU]
     clear e0 a5 aZ;refine tf ?_;refine ao ?_;obtain⟨d0,ag,aR⟩:=bu.s.two;refine aE rfl (fun K hK=>?_) rfl;go_simp;refine dW hK ((((Kn.setCell (.inl (.inr rfl)) _).setCell (.inl (.inr rfl)) _).setCell (.inl (.inr rfl)) _).setCell (.inl (.inr rfl)) _) ?_;clear hK K;refine bg (fun V=>qv ⟨s,wb,sA,bQ,a7,sl,GA,gn,gc,MA,mn,mc,FA,fn,fc,M,F,ar⟩ J wr L #[.int .i64 1,.string ⟨#[]⟩,.int .i64 x.aU,.int .i64 x.numOf,.string x.a1,.slice cl ck ct,.string ⟨#[]⟩,.slice none 0 0,.slice none 0 0,.slice none 0 0,.slice none 0 0] V∧Fr (fun b=>b=J.heap.size) v6 V) ⟨by exact(((bu.aC au.1 2 _).aC au.1 3 _).aC au.1 4 _).aC au.1 5 _,by exact((((Fr.refl (fun b=>b=J.heap.size) v6).setCell (.inl rfl) _).setCell (.inl rfl) _).setCell (.inl rfl) _).setCell (.inl rfl) _⟩ (fun b3 hV=>?_);have cj:=ad hV.1;have cd:=ad ((cb.aj fun b O=>hV.2.block b O.2 (aH O.1)).mono fun b O=>(⟨O.1,JR O.2 hV.2.size⟩:J.heap.size<b∧b<b3.heap.size));have cy:=ad (bj.on hV.2 ab);clear hV d0 ag aR;have aF:=And.intro cj.o (And.intro cd.o aP.o)
     have aW:∃(z:VE) (cB:Kr) (cp zc:Nat),(Value.agg #[.int .i64 x.aU,.int .i64 x.numOf,.string x.a1,.slice cl ck ct])=.agg #[.int .i64 z.aU,.int .i64 z.numOf,.string z.a1,.slice cB cp zc]∧qv ⟨s,wb,sA,bQ,a7,sl,GA,gn,gc,MA,mn,mc,FA,fn,fc,M,F,ar⟩ J wr L #[.int .i64 1,.string ⟨#[]⟩,.int .i64 z.aU,.int .i64 z.numOf,.string z.a1,.slice cB cp zc,.string ⟨#[]⟩,.slice none 0 0,.slice none 0 0,.slice none 0 0,.slice none 0 0] b3∧Sl b3 (fun b=>J.heap.size<b∧b<b3.heap.size) cB cp (z.args.map bb)∧z.src bc 2∧cp≤zc:=⟨x,cl,ck,ct,rfl,aF⟩
     revert aW;generalize bP.heap.size=aX;exact wJ
    ·
     obtain⟨d0,ag,aR⟩:=ah.s.two;refine aE rfl (fun K hK=>?_) rfl;go_simp;refine dW hK ((((Kn.setCell (.inl (.inr rfl)) _).setCell (.inl (.inr rfl)) _).setCell (.inl (.inr rfl)) _).setCell (.inl (.inr rfl)) _) ?_;clear hK K;refine bg (fun V=>qv ⟨s,wb,sA,bQ,a7,sl,GA,gn,gc,MA,mn,mc,FA,fn,fc,M,F,ar⟩ J wr L #[.int .i64 1,.string ⟨#[]⟩,.int .i64 x.aU,.int .i64 x.numOf,.string x.a1,.slice cl ck ct,.string ⟨#[]⟩,.slice none 0 0,.slice none 0 0,.slice none 0 0,.slice none 0 0] V∧Fr (fun b=>b=J.heap.size) bP V) ⟨by exact(((ah.aC au.1 2 _).aC au.1 3 _).aC au.1 4 _).aC au.1 5 _,by exact((((Fr.refl (fun b=>b=J.heap.size) bP).setCell (.inl rfl) _).setCell (.inl rfl) _).setCell (.inl rfl) _).setCell (.inl rfl) _⟩ (fun a3 hV=>?_);have bw:=ad hV.1;have ce:=ad ((bl.aj fun b O=>hV.2.block b O.2 (aH O.1)).mono fun b O=>(⟨O.1,JR O.2 hV.2.size⟩:J.heap.size<b∧b<a3.heap.size));clear hV d0 ag aR;refine ao ?_;refine eZ ?_;refine bg (fun V=>Ext a3 V∧af V a3.heap.size 5 #[.int .u8 t,.int .u8 I]) ⟨Kn.alloc _,Ko⟩ (fun bK hV=>?_);have cm:=ad (bw.ak a1 hV.1);have b2:=ad hV.2;have cW:J.heap.size<a3.heap.size:=bw.s.lt;have ch:=ad ((ce.aj fun b O=>hV.1.block b O.2 fun h=>h).mono fun b O=>(⟨O.1,JR O.2 hV.1.size⟩:J.heap.size<b∧b<bK.heap.size));clear hV;obtain⟨e0,a5,aZ⟩:=b2.two;refine cf (v:=?_) rfl (by rfl) (fun V hV=>?_) ?_;rotate_left
     ·have bU:=l7 V a3.heap.size t I ((hV.cell aZ ab).trans (e0 0)) ((hV.cell aZ ab).trans (e0 1))
      (go_simp<;>with_reducible rfl)
     try simp only[PU]
     clear e0 a5 aZ;refine tf ?_;have aF:=And.intro cm.o (And.intro ch.o aP.o);have aW:∃(z:VE) (cB:Kr) (cp zc:Nat),(Value.agg #[.int .i64 x.aU,.int .i64 x.numOf,.string x.a1,.slice cl ck ct])=.agg #[.int .i64 z.aU,.int .i64 z.numOf,.string z.a1,.slice cB cp zc]∧qv ⟨s,wb,sA,bQ,a7,sl,GA,gn,gc,MA,mn,mc,FA,fn,fc,M,F,ar⟩ J wr L #[.int .i64 1,.string ⟨#[]⟩,.int .i64 z.aU,.int .i64 z.numOf,.string z.a1,.slice cB cp zc,.string ⟨#[]⟩,.slice none 0 0,.slice none 0 0,.slice none 0 0,.slice none 0 0] bK∧Sl bK (fun b=>J.heap.size<b∧b<bK.heap.size) cB cp (z.args.map bb)∧z.src bc 2∧cp≤zc:=⟨x,cl,ck,ct,rfl,aF⟩
     revert aW;generalize a3.heap.size=aX;exact wJ
  ·
   refine eZ ?_;refine bg (fun V=>Ext wr V∧af V wr.heap.size 5 #[.int .u8 t,.int .u8 I]) ⟨(Kn.alloc _).drew,Ko⟩ (fun v10 hV=>?_);have k:=ad (U.ak a1 hV.1);have aj:=ad hV.2;have cW:J.heap.size<wr.heap.size:=U.s.lt;clear hV;obtain⟨e0,a5,aZ⟩:=aj.two;refine cf (v:=?_) rfl (by rfl) (fun V hV=>?_) ?_;rotate_left
   ·have bU:=l7 V wr.heap.size t I ((hV.cell aZ ab).trans (e0 0)) ((hV.cell aZ ab).trans (e0 1))
    (go_simp<;>with_reducible rfl)
   try simp only[PU]
   clear e0 a5 aZ;refine tf ?_;refine ao ?_;refine aE rfl (fun K hK=>?_) rfl;go_simp;refine(jz ⟨s,wb,sA,bQ,a7,sl,GA,gn,gc,MA,mn,mc,FA,fn,fc,M,F,ar⟩ L bc o a8 u _ ((k.c.ak a1 Kn).wr au.1) ((Sl.cO au.2.2.2.2.1 (k.c.ak a1 Kn).fr).mono fun b O=>⟨O.1,fun h=>O.2 (.inl h)⟩) ab).mono ?_;rintro e v11 ⟨x,cl,ck,ct,rfl,hx,S,bY,h,he⟩
   try simp only at h he
   have Z:Fr (fun b=>b=s) v10 v11:=he;have aA:=ad (k.call a1 b4 h Z);have aP:=ai hx S;have bC:=ad ((bY.mono fun b O=>(⟨by have:=k.s.lt;have:=O.1;omega,O.2⟩:J.heap.size<b∧b<v11.heap.size)));have bA:=ad (aj.on Z ab);refine dW hK (he.mono fun _ h=>.inl h) ?_;clear hK K;clear hx S bY h he Z;refine ao ?_;obtain⟨d0,ag,aR⟩:=aA.s.two;refine aE rfl (fun K hK=>?_) rfl;go_simp;refine dW hK (Kn.setCell (.inl (.inr rfl)) _) ?_;clear hK K;refine bg (fun V=>qv ⟨s,wb,sA,bQ,a7,sl,GA,gn,gc,MA,mn,mc,FA,fn,fc,M,F,ar⟩ J wr L #[.int .i64 1,.string ⟨#[]⟩,.int .i64 0,.int .i64 0,.string ⟨#[]⟩,.slice none 0 0,.string ⟨#[]⟩,.slice none 0 0,.slice none 0 0,.slice none 0 0,.slice none 0 0] V∧Fr (fun b=>b=J.heap.size) v11 V) ⟨by exact aA.aC au.1 0 _,by exact(Fr.refl (fun b=>b=J.heap.size) v11).setCell (.inl rfl) _⟩ (fun b0 hV=>?_);have aJ:=ad hV.1;have bM:=ad ((bC.aj fun b O=>hV.2.block b O.2 (aH O.1)).mono fun b O=>(⟨O.1,JR O.2 hV.2.size⟩:J.heap.size<b∧b<b0.heap.size));have bB:=ad (bA.on hV.2 ab);clear hV d0 ag aR;refine tf ?_;refine ao ?_;obtain⟨d0,ag,aR⟩:=aJ.s.two;refine aE rfl (fun K hK=>?_) rfl;go_simp;refine dW hK ((((Kn.setCell (.inl (.inr rfl)) _).setCell (.inl (.inr rfl)) _).setCell (.inl (.inr rfl)) _).setCell (.inl (.inr rfl)) _) ?_;clear hK K
   refine bg (fun V=>qv ⟨s,wb,sA,bQ,a7,sl,GA,gn,gc,MA,mn,mc,FA,fn,fc,M,F,ar⟩ J wr L #[.int .i64 1,.string ⟨#[]⟩,.int .i64 x.aU,.int .i64 x.numOf,.string x.a1,.slice cl ck ct,.string ⟨#[]⟩,.slice none 0 0,.slice none 0 0,.slice none 0 0,.slice none 0 0] V∧Fr (fun b=>b=J.heap.size) b0 V) ⟨by exact(((aJ.aC au.1 2 _).aC au.1 3 _).aC au.1 4 _).aC au.1 5 _,by exact((((Fr.refl (fun b=>b=J.heap.size) b0).setCell (.inl rfl) _).setCell (.inl rfl) _).setCell (.inl rfl) _).setCell (.inl rfl) _⟩ (fun av hV=>?_);have bW:=ad hV.1;have bT:=ad ((bM.aj fun b O=>hV.2.block b O.2 (aH O.1)).mono fun b O=>(⟨O.1,JR O.2 hV.2.size⟩:J.heap.size<b∧b<av.heap.size));have cq:=ad (bB.on hV.2 ab);clear hV d0 ag aR;have aF:=And.intro bW.o (And.intro bT.o aP.o);have aW:∃(z:VE) (cB:Kr) (cp zc:Nat),(Value.agg #[.int .i64 x.aU,.int .i64 x.numOf,.string x.a1,.slice cl ck ct])=.agg #[.int .i64 z.aU,.int .i64 z.numOf,.string z.a1,.slice cB cp zc]∧qv ⟨s,wb,sA,bQ,a7,sl,GA,gn,gc,MA,mn,mc,FA,fn,fc,M,F,ar⟩ J wr L #[.int .i64 1,.string ⟨#[]⟩,.int .i64 z.aU,.int .i64 z.numOf,.string z.a1,.slice cB cp zc,.string ⟨#[]⟩,.slice none 0 0,.slice none 0 0,.slice none 0 0,.slice none 0 0] av∧Sl av (fun b=>J.heap.size<b∧b<av.heap.size) cB cp (z.args.map bb)∧z.src bc 2∧cp≤zc:=⟨x,cl,ck,ct,rfl,aF⟩
   revert aW;generalize wr.heap.size=aX;exact wJ
 case xZ=>
  rintro aX Y cz ⟨z,cB,cp,zc,rfl,aO,cT,bi,bF⟩;obtain⟨d0,ag,aR⟩:=aO.s.two;refine tf ?_;exact g8
 ):p:=h
end Bp
open Bp in
theorem GP(d a8:Nat):SK 7 d a8:=by
 exact lx
namespace Bq
theorem jD{p:Prop}(h:p:=by
 generalize hX:World.setCell _ _ _=X;have aD:Fr (fun b=>b=J.heap.size) aO X:=hX▸((((((Fr.refl (fun b=>b=J.heap.size) aO).setCell (.inl rfl) _).setCell (.inl rfl) _).setCell (.inl rfl) _).setCell (.inl rfl) _).setCell (.inl rfl) _).setCell (.inl rfl) _;have aG:af X J.heap.size 192 #[.int .i64 2,.string nm,.int .i64 x.aU,.int .i64 x.numOf,.string x.a1,.slice cl ck ct,.string ⟨#[]⟩,.slice none 0 0,.slice none 0 0,.slice none 0 0,.slice none 0 0]:=hX▸(((((aX.2.1.aC 0 _).aC 1 _).aC 2 _).aC 3 _).aC 4 _).aC 5 _;clear hX d0 ag aR;go_wp2_with(fail);obtain⟨bf,_,hx,S,bY,bz⟩:=aX.o;have bE:=aD.size;have bg:=bL.2.2.lt
 try refine hN _ _ ?_
 unfold lu;apply Exists.intro
 refine⟨a8,u,bs,on,bG,?_⟩
 iterate 240 apply Exists.intro
 refine⟨?_,rfl⟩;exact gJ.simple (st:=.set false nm x) ⟨s,wb,sA,bQ,a7,sl,GA,gn,gc,MA,mn,mc,FA,fn,fc,M,F,ar⟩ aB B b7 be d ps V T ls N L W aY QA ca qc bI au.1 bv dw au.2.2.2.1 cc.1 eO c2 aL (bf.fresh au.1 aD fun b O=>ab) aG (ei (aV.2 ⟨cl,ck,ct,rfl,S,(bY.aj fun b O=>aD.block b O.2 (aH O.1)).mono fun b O=>⟨by have:=O.1;omega,by have:=O.2;omega⟩⟩) ky (Sl.bG _) (JQ _) (Sl.bG _) (JQ _) (Sl.bG _) (JQ _)) ⟨cc.1 dv.o,dy cc.1 2 x hx⟩ (fun n hn=>by simp[ax.all] at hn) (by simp only[ax.num];omega) (JQ _) bd.2.2 au.2.1
 ):p:=h
theorem ly{p:Prop}(h:p:=by
 have r:(0:Int)<(a8:Int):=ab;have gK:¬(wb=s∨wb=J.heap.size):=ab;go_upto_region 22 with(fail);refine eE (fun b=>b=s∨b=J.heap.size) [(0,3),(1,3),(2,3),(3,3),(4,0),(5,3),(6,3),(10,3),(11,3),(13,3),(7,1),(8,3),(9,0),(12,1),(14,1),(15,3),(16,2),(17,3),(18,2)] ?_
 iterate 4 refine pf ?_
 refine pV ?_
 iterate 5 refine pf ?_
 refine aK rfl (fun K hK=>?_);go_simp;refine(aW wr.drew s sA bQ a7 sl a8 (bL.1.ak a1 Kn.drew).src ab ab).mono ?_;rintro e aN ⟨b5,rfl,aJ,bF,h,he⟩;obtain⟨j,rfl⟩:=JV aJ;have t:Fr (fun b=>b=s) wr aN:=Fr.aO he.fr;have P:=bL.1.next a1 h t;obtain⟨i,y,nm,cs,g,O,hm,aU,a3,hc⟩:=Sl.gN (z:=1) au.2.2.2.2.1 (fun _=>rfl) (k:=j) ab;subst g;obtain rfl:=tW.1 aU;have c0:=(P.fr.cell O.1 O.2).trans (hc 0 _ rfl);simp only[Nat.mul_one,J0] at c0;have v:¬(i=s∨i=J.heap.size):=fun h=>by
  rcases h with h|h
  ·exact O.2 (.inl h)
  ·have:=O.1;omega
 have m:i<aN.heap.size:=by have:=P.fr.size;have:=O.1;omega
 have ci:(0:Int)≤(j:Int):=ab;have f1:(j:Int)<(a8:Int):=ab;have dv:=ad (JT hm);have H1:=ai P (bL.2.2.on t ab);have b1:=t.size;refine dW hK (he.fr.mono fun _ h=>.inl h) ?_;clear hK K;clear a0 ap ak a6 am aI d0 ag aR aU a3 hc hm h he t P O aJ bF;refine pf ?_;refine Jm ?_;refine aK rfl (fun K hK=>?_);go_simp;refine(jz ⟨s,wb,sA,bQ,a7,sl,GA,gn,gc,MA,mn,mc,FA,fn,fc,M,F,ar⟩ L bc _ a8 u aN (H1.1.wr au.1) ((Sl.cO au.2.2.2.2.1 H1.1.fr).mono fun b O=>⟨O.1,fun h=>O.2 (.inl h)⟩) ab).mono ?_;rintro e aO ⟨x,cl,ck,ct,rfl,hx,S,bY,h,he⟩;simp only at h he;have l:=H1.2.on he ab;have aX:=dQ (H1.1.next a1 h he) l hx S bY he.size;obtain⟨d0,ag,aR⟩:=l.two;refine dW hK (he.mono fun _ h=>.inl h) ?_;clear hK K;clear l hx S bY h he c0;refine aK rfl (fun K hK=>?_);go_simp;refine dW hK (Kn.setCell (.inl (.inr rfl)) _) ?_;clear hK K;refine pf ?_;exact u3
 ):p:=h
end Bq
open Bq in
theorem GO(d a8:Nat)(bK:0<a8):SK 8 d a8:=by
 exact lx
end Go.Proofs.YtbkhhfajcgkpgaaGreat

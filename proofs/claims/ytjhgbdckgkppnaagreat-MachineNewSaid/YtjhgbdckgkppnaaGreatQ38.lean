/- Part 38 of the proof (PgF Pg4), without conditions of its own. -/
import Derived.Test.YtjhgbdckgkppnaaGreatQ37
namespace Go.Proofs.YtjhgbdckgkppnaaGreat
open Go.RowKit Go.Proofs.Tryz
set_option maxRecDepth 1000000
set_option maxHeartbeats 25600000
set_option linter.unusedVariables false
variable{B g z:Nat}{P:Nat→Prop}{e:TypeId}{f:aG}
theorem kC{w:World}{cs:List Value}:(c7 f).rep w P cs↔∃(A:GR) (n c:Nat) (A2:GR) (bl c2:Nat),cs=[.string f.name,.slice A n c,.slice A2 bl c2]∧n≤c∧Sl w P A n (f.params.map cW)∧bl≤c2∧Sl w P A2 bl (cL f.body):=by
 unfold c7;rw[bw,ca];constructor
 ·rintro⟨y,rfl,h⟩;obtain⟨A,n,c,bu,rfl,hc,hs,h⟩:=aJ.1 h;obtain⟨A2,bl,c2,bA,rfl,ce,bK,h⟩:=aJ.1 h;rw[aM] at h;subst h;exact⟨A,n,c,A2,bl,c2,rfl,hc,hs,ce,bK⟩
 ·rintro⟨A,n,c,A2,bl,c2,rfl,hc,hs,ce,bK⟩;exact⟨_,rfl,aJ.2 ⟨A,n,c,_,rfl,hc,hs,aJ.2 ⟨A2,bl,c2,[],rfl,ce,bK,aM.2 rfl⟩⟩⟩
theorem pe(f:aG):(c7 f).sz=3:=rfl
theorem pF{w:World}{P:Nat→Prop}{b:aj}{au:GR}{on bj:Nat}(hc:on≤bj)(aO:Sl w P au on (cL b)):∀(F:List aG) (i:Nat) (xs:List Value) (f:aG),D.aL w P (F.map c7) xs→F[i]?=some f→D.aL w P ((F.set i {f with body:=b}).map c7) (xs.set (i*3+2) (.slice au on bj))
 | [],i,xs,f,h,aw=>by simp at aw
 | x::F,0,xs,f,h,aw=>by
  simp only[List.getElem?_cons_zero,GI] at aw;subst aw;rw[Gh] at h;obtain⟨j,d,rfl,hx,a3⟩:=fY.1 h;obtain⟨A,n,c,A2,bl,c2,rfl,ac,J,_,_⟩:=kC.1 hx;rw[List.set_cons_zero,Gh]
  exact fY.2 ⟨[.string x.name,.slice A n c,.slice au on bj],d,rfl,kC.2 ⟨A,n,c,au,on,bj,rfl,ac,J,hc,aO⟩,a3⟩
 | x::F,i+1,xs,f,h,aw=>by
  rw[List.getElem?_cons_succ] at aw;rw[Gh] at h;obtain⟨j,d,rfl,hx,a3⟩:=fY.1 h;have hl:=(D.ka _ _ hx).trans (pe x);have aa:=pF hc aO F i d f a3 aw;rw[List.set_cons_succ,Gh,List.set_append_right _ _ ad,hl,show (i+1)*3+2 - 3=i*3+2 by omega];exact fY.2 ⟨_,_,rfl,hx,aa⟩
theorem Gr.FO{w:World}{n c i:Nat}{F:List aG}{b:aj}{au:GR}{on bj:Nat}(h:Gr P B e 3 w (some ⟨g,0,none⟩) n c (F.map c7))(aw:F[i]?=some f)(hc:on≤bj)(aO:Sl w (j2 P w (.slice (some ⟨g,0,none⟩) n c)) au on (cL b)):
  Gr P B e 3 (w.setCell ⟨g,i*3+2,none⟩ (.slice au on bj)) (some ⟨g,0,none⟩) n c ((F.set i {f with body:=b}).map c7):=by
 obtain⟨hl,xs,ac,J⟩:=h;have bL:Fr (fun b=>b=g) w (w.setCell ⟨g,i*3+2,none⟩ (.slice au on bj)):=(Fr.refl (fun b=>b=g) w).setCell (.inl rfl) _;have hs:=bL.size;have aA:=(List.getElem?_eq_some_iff.1 aw).1;refine⟨by simpa using hl,xs.set (i*3+2) (.slice au on bj),⟨by rw[List.length_set];exact ac.1,?_⟩,?_⟩
 ·rcases ac.2 with⟨bC,_⟩|⟨ai,cap,cur,bC,O,aM,hn,a6,bN,ht⟩
  ·cases bC
  ·injection bC with aV _ Z;injection aV with aV;injection aV with aV;subst aV;refine .inr ⟨g,cap,cur.setIfInBounds (i*3+2) (.slice au on bj),by rw[Z],O,ag.aH (show ag w g e cur from aM) (i*3+2) _,hn,a6,by simpa using bN,?_⟩;rw[Array.toList_setIfInBounds,List.take_set,ht]
 ·refine D.cr (fun b O=>⟨O.1,Gc O.2.1 hs,O.2.2⟩) _ _ (D.cJ (fun b O=>bL.block b O.2.1 fun j=>O.2.2 ?_) _ _ (pF hc aO F i xs f J aw));subst j;rfl
theorem Gr.FC{w:World}{n c:Nat}{A:GR}{l:List D}(h:Gr P B e z w A n c l)(hn:0<n):∃g,A=some ⟨g,0,none⟩∧B≤g∧g<w.heap.size:=by
 obtain⟨_,xs,ac,_⟩:=h;rcases ac.2 with⟨_,h0⟩|⟨g,cap,cur,bC,O,aM,_⟩
 ·omega
 ·injection bC with bC _ _;exact⟨g,bC,O,(Array.getElem?_eq_some_iff.1 aM).1⟩
structure mV(S:World)(I:Nat)(A:GR)(n c:Nat)(l:List Int)(ar:Bool)(MA:GR)(mn mc:Nat)(M:List bF)(GA:GR)(gn gc:Nat)(G:List (ByteArray×Int))(o:GR)(u:Nat)(fg fn fc:Nat)(w:World)(F:List aG)(i L:Nat):Prop where
 src:bV w (S.heap.size+1) A n c l
 blk:ag w (S.heap.size+1+1) 129 #[.pointer (some ⟨S.heap.size+1,0,none⟩),.slice GA gn gc,.slice MA mn mc,.slice (some ⟨fg,0,none⟩) fn fc,.int .i64 L,.bool ar]
 res:ag w S.heap.size 27 #[.slice none 0 0,.slice none 0 0,.slice none 0 0]
 ms:Sl w (fun b=>S.heap.size+1+1+1≤b∧b<I) MA mn (M.map d4)
 gs:Sl w (fun b=>S.heap.size+1+1+1≤b∧b<I) GA gn (G.map hq)
 vs:Sl w (fun b=>S.heap.size+1+1+1≤b∧b<I) o gn ((G.map (·.1)).map D.s)
 fs:Gr (fun b=>I≤b) I 140 3 w (some ⟨fg,0,none⟩) fn fc (F.map c7)
 mc:mn≤mc
 gc:gn≤gc
 nm:1≤mn∧mn≤4
 ok:lM M
 ng:gn≤2
 vW:pO G
 nf:1≤fn∧fn≤4
 bd:r3 G M F i L
 jE:L≤24
 ext:Ext S w
 hD:S.heap.size+1+1+1≤I∧I≤w.heap.size
section
variable {S w ab:World} {I:Nat} {A:GR} {n c:Nat} {l:List Int} {ar:Bool} {MA:GR} {mn mc:Nat} {M:List bF} {GA:GR} {gn gc:Nat} {G:List (ByteArray×Int)} {o:GR} {u:Nat} {FA:GR} {fg fn fc:Nat} {F:List aG} {i L R:Nat}
theorem v8.FL(h:v8 S I w A n c l ar MA mn mc M GA gn gc G o u FA fn fc F)(hn:1≤fn):∃fg,FA=some ⟨fg,0,none⟩∧mV S I A n c l ar MA mn mc M GA gn gc G o u fg fn fc w F 0 24:=by
 obtain⟨fg,rfl,_⟩:=h.fs.FC ad;exact⟨fg,rfl,h.src,h.blk,h.res,h.ms,h.gs,h.vs,h.fs,h.mc,h.gc,h.nm,h.ok,h.ng,h.vW,⟨hn,h.nf⟩,h.FE.start,Gb _,h.ext,h.hD⟩
theorem mV.len(h:mV S I A n c l ar MA mn mc M GA gn gc G o u fg fn fc w F i L):F.length=fn∧M.length=mn∧G.length=gn:=⟨by have:=h.fs.len;simpa using this,by have:=h.ms.1;simpa using this,by have:=h.gs.1;simpa using this⟩
theorem mV.own(h:mV S I A n c l ar MA mn mc M GA gn gc G o u fg fn fc w F i L):I≤fg∧fg<w.heap.size:=h.fs.lt rfl
theorem mV.ir(h:mV S I A n c l ar MA mn mc M GA gn gc G o u fg fn fc w F i L):∀f∈F,f.params.length≤2:=fun f aw=>by
 obtain⟨i,aJ⟩:=List.getElem?_of_mem aw;obtain⟨n,hn,hp⟩:=(h.bd.ko i f aJ).2.1;have:=congrArg List.length hp;rw[Gf,kM] at this;omega
theorem mV.al(h:mV S I A n c l ar MA mn mc M GA gn gc G o u fg fn fc w F i L)(O:Ext w ab):mV S I A n c l ar MA mn mc M GA gn gc G o u fg fn fc ab F i L:=by
 have hD:=h.hD;have ap:∀b,(S.heap.size+1+1+1≤b∧b<I)→ab.heap[b]?=w.heap[b]?:=fun b hp=>O.block b (aB hp.2) (fun h=>h);exact⟨h.src.ch O fun _ _ h=>h,h.blk.al O,h.res.al O,h.ms.ao ap,h.gs.ao ap,h.vs.ao ap,h.fs.al O,h.mc,h.gc,h.nm,h.ok,h.ng,h.vW,h.nf,h.bd,h.jE,h.ext.trans O,hD.1,by have:=O.size;omega⟩
theorem mV.wr(h:mV S I A n c l ar MA mn mc M GA gn gc G o u fg fn fc w F i L):fE w ⟨S.heap.size+1,S.heap.size+1+1,A,n,c,l,GA,gn,gc,MA,mn,mc,some ⟨fg,0,none⟩,fn,fc,M,F,ar⟩ L:=by
 have hD:=h.hD;exact⟨h.src,h.blk,Nat.lt_succ_self _,h.ms.mono fun b O=>⟨ad,fun hm=>by rcases hm with hm|hm<;>(simp only at hm;omega)⟩,h.fs.sl (fun b O hp=>⟨O,fun hm=>by rcases hm with hm|hm<;>(simp only at hm;omega)⟩) (fun b O hp=>⟨O,fun hm=>by rcases hm with hm|hm<;>(simp only at hm;omega)⟩),h.nm,h.nf,
  fun m hm=>by obtain⟨k,ap⟩:=List.getElem?_of_mem hm;exact⟨(h.ok k m ap).2.1,(h.ok k m ap).2.2.1⟩,h.ir,h.jE⟩
theorem mV.ko(h:mV S I A n c l ar MA mn mc M GA gn gc G o u fg fn fc w F i L):fH ⟨G,M,F⟩:=oT.ko h.vW (kk h.len.2.2 h.ng) h.ok (kk h.len.2.1 h.nm) h.bd.ko (kk h.len.1 h.nf)
theorem mV.body(h:mV S I A n c l ar MA mn mc M GA gn gc G o u fg fn fc w F i L){f:aG}(aw:F[i]?=some f){ls:List ay}{au:GR}{on bj:Nat}
  (hw:fE ab ⟨S.heap.size+1,S.heap.size+1+1,A,n,c,l,GA,gn,gc,MA,mn,mc,some ⟨fg,0,none⟩,fn,fc,M,F,ar⟩ R) (O:Fr (fun b=>b=S.heap.size+1∨b=S.heap.size+1+1) w ab)
  (hm:Made (gL ⟨G,M,F⟩ f) 2 (eD ⟨G,M,F⟩++cc f.params) (a5 ⟨G,M,F⟩++f.params.map (·.1)) L R ls) (hc:on≤bj) (hs:Sl ab (fresh w ab) au on (ls.map aW)) :
  mV S I A n c l ar MA mn mc M GA gn gc G o u fg fn fc (ab.setCell ⟨fg,i*3+2,none⟩ (.slice au on bj)) (F.set i {f with body:=.ef ls}) (i+1) R:=by
 have hD:=h.hD;have bi:=h.own;have bN:=O.size;have aq:Fr (fun b=>b=fg) ab (ab.setCell ⟨fg,i*3+2,none⟩ (.slice au on bj)):=(Fr.refl (fun b=>b=fg) ab).setCell (.inl rfl) _;have b7:=aq.size;have ap:∀b,(S.heap.size+1+1+1≤b∧b<I)→(ab.setCell ⟨fg,i*3+2,none⟩ (.slice au on bj)).heap[b]?=w.heap[b]?:=fun b hp=>(aq.block b (aB hp.2) (aB hp.2)).trans (O.block b (aB hp.2) fun aj=>by have:=hp.1;rcases aj with aj|aj<;>omega);have aM:Gr (fun b=>I≤b) I 140 3 ab (some ⟨fg,0,none⟩) fn fc (F.map c7):=h.fs.cZ O fun b hm _=>by rcases hm with hm|hm<;>exact⟨ad,ad⟩
 have aI:Ext S ab:=Fr.low (M:=fun b=>b=S.heap.size+1∨b=S.heap.size+1+1) ((h.ext.mono fun _ h=>h.elim).trans O) fun k ap=>by rcases ap with ap|ap<;>omega
 refine⟨hw.src.ch aq fun b ao aj=>by simp only at ao;omega,hw.blk.on aq (by show ¬S.heap.size+1+1=fg;omega),(h.res.on O ad).on aq ad,h.ms.ao ap,h.gs.ao ap,h.vs.ao ap,?_,h.mc,h.gc,h.nm,h.ok,h.ng,h.vW,h.nf,h.bd.next aw hm,hw.jE,
  Fr.low (M:=fun b=>b=fg) ((aI.mono fun _ h=>h.elim).trans aq) fun k ap=>by have:=h.ext.size;omega,hD.1,ad⟩
 refine aM.FO aw hc ?_;rw[k3];exact hs.mono fun b O=>⟨by have:=O.1;omega,O.2,fun h=>by injection h with h;have:=O.1;simp only at h;omega⟩
theorem mV.done(h:mV S I A n c l ar MA mn mc M GA gn gc G o u fg fn fc w F fn L):mU ⟨G,M,F⟩:=by
 have hl:=h.len;have O:=h.bd;rw[←hl.1] at O;exact O.wf h.vW (aB h.ng) h.ok (aB h.nm) (aB h.nf)
end
structure RW(s:Nat)(v0 v1 v2 r aN:Value)(w ab:World):Prop where
 fr:Fr (fun b=>b=s∨b=s+1) w ab
 wb:∀L:Int,ag w (s+1) 129 #[v0,v1,v2,r,.int .i64 L,aN]→∃R:Int,ag ab (s+1) 129 #[v0,v1,v2,r,.int .i64 R,aN]
theorem RW.refl{s:Nat}{v0 v1 v2 r aN:Value}(w:World):RW s v0 v1 v2 r aN w w:=⟨GN,fun L h=>⟨L,h⟩⟩
theorem RW.trans{s:Nat}{v0 v1 v2 r aN:Value}{w ab aQ:World}(h:RW s v0 v1 v2 r aN w ab)(k:RW s v0 v1 v2 r aN ab aQ):RW s v0 v1 v2 r aN w aQ:=⟨h.fr.trans k.fr,fun L O=>by
 obtain⟨aX,ac⟩:=h.wb L O;exact k.wb aX ac⟩
theorem By(p:jr)(L:Nat)(V T:GS)(U:GR)(aF ak:Nat)(bc:ByteArray)(ps:List (ByteArray×Bool))(QA:GR)(ch qc:Nat)(bP:Value)(w:World)(hw:fE w p L)(cj:Sl w (off p.MW w) U aF (V.map D.s))(hV:V.length+L≤60)(aw:kV T L)
  (bi:Sl w (off p.MW w) QA ch (ps.map cW)) (bu:ch≤2):Calls prog 74 #[.pointer (some ⟨p.wb,0,none⟩),.agg #[.string bc,.slice QA ch qc,bP],.slice U aF ak,.int .i64 2,.int .i64 6] w (CQ p 2 V T ps L w):=
 tX p L 2 6 V T U aF ak bc ps QA ch qc bP w ad ad hw cj hV aw bi bu
structure BF(fg i:Nat)(f:aG)(QA:GR)(ch qc:Nat)(f4:GR)(bn bc:Nat)(w:World):Prop where
 c0:w.cell? ⟨fg,i*3,none⟩=some (.string f.name)
 c1:w.cell? ⟨fg,i*3+1,none⟩=some (.slice QA ch qc)
 c2:w.cell? ⟨fg,i*3+2,none⟩=some (.slice f4 bn bc)
theorem BF.ao{fg i:Nat}{QA:GR}{ch qc:Nat}{f4:GR}{bn bc:Nat}{w ab:World}(h:BF fg i f QA ch qc f4 bn bc w)(ap:ab.heap[fg]?=w.heap[fg]?):BF fg i f QA ch qc f4 bn bc ab:=
 ⟨(World.cell?_of_block (w:=w) ap).trans h.c0,(World.cell?_of_block (w:=w) ap).trans h.c1,(World.cell?_of_block (w:=w) ap).trans h.c2⟩
theorem mV.EY{S w:World}{I:Nat}{A:GR}{n c:Nat}{l:List Int}{ar:Bool}{MA:GR}{mn mc:Nat}{M:List bF}{GA:GR}{gn gc:Nat}{G:List (ByteArray×Int)}{o:GR}{u:Nat}{fg fn fc:Nat}{F:List aG}{i L:Nat}
  (h:mV S I A n c l ar MA mn mc M GA gn gc G o u fg fn fc w F i L) (aJ:i<fn):∃(f:aG) (QA:GR) (ch qc:Nat) (f4:GR) (bn bc:Nat),F[i]?=some f∧ch≤2∧ch≤qc∧Sl w (fun b=>I≤b∧b<w.heap.size) QA ch (f.params.map cW)∧BF fg i f QA ch qc f4 bn bc w:=by
 obtain⟨bY,cI,f,cs,m,ci,r,y,a1,hc⟩:=Sl.fJ (z:=3) (h.fs.sl (Q:=fun b=>I≤b∧b<w.heap.size) (fun b ao h=>⟨h,ao⟩) (fun b ao h=>⟨h,ao⟩)) (fun _=>pe _) aJ;obtain⟨QA,ch,qc,f4,bn,bc,rfl,gI,dw,_,_⟩:=kC.1 y;injection m with m;injection m with ac J aS;subst ac;subst J;have bu:ch≤2:=by
  have bo:=h.ir f (Ge r);have cr:=dw.1;rw[Gf] at cr;omega
 have c0:=hc 0 _ rfl;have c1:=hc 1 _ rfl;have c2:=hc 2 _ rfl;simp only[Gv,Gl] at c0 c1 c2;exact⟨f,QA,ch,qc,f4,bn,bc,r,bu,gI,dw,c0,c1,c2⟩
theorem Gr.FB{w:World}{n c:Nat}{l:List D}(h:Gr P B e z w (some ⟨g,0,none⟩) n c l):∃cur,ag w g e cur:=by
 obtain⟨_,xs,ac,_⟩:=h;rcases ac.2 with⟨bC,_⟩|⟨ai,cap,cur,bC,O,aM,_⟩
 ·cases bC
 ·injection bC with bC _ _;injection bC with bC;injection bC with bC;subst bC;exact⟨cur,aM⟩
theorem o1{ps:List (ByteArray×Bool)}{j:Nat}{q:ByteArray×Bool}(h:ps[j]?=some q):cc (ps.take (j+1))=cc (ps.take j)++(if q.2 then [] else [q.1]):=by
 unfold cc;rw[List.take_add_one,h];obtain⟨x,b⟩:=q;cases b<;>simp
theorem qg(ps:List (ByteArray×Bool)):(cc ps).length≤ps.length:=by
 unfold cc;rw[Gf];exact List.length_filter_le _ _
theorem mV.FN{S w ab:World}{I:Nat}{A:GR}{n c:Nat}{l:List Int}{ar:Bool}{MA:GR}{mn mc:Nat}{M:List bF}{GA:GR}{gn gc:Nat}{G:List (ByteArray×Int)}{o:GR}{u:Nat}{fg fn fc:Nat}{F:List aG}{L:Nat}
  (h:mV S I A n c l ar MA mn mc M GA gn gc G o u fg fn fc w F fn L) (O:Fr (fun b=>b=S.heap.size) w ab):jh S (.returned (.agg #[.slice GA gn gc,.slice MA mn mc,.slice (some ⟨fg,0,none⟩) fn fc])) ab:=by
 have hD:=h.hD;have hs:=O.size;have ap:∀b,(S.heap.size+1+1+1≤b∧b<I)→ab.heap[b]?=w.heap[b]?:=fun b hp=>O.block b (aB hp.2) (aB hp.1);have bp:Gr (fun b=>I≤b) I 140 3 ab (some ⟨fg,0,none⟩) fn fc (F.map c7):=h.fs.cZ O fun b hm _=>⟨ad,ad⟩
 exact⟨⟨G,M,F⟩,GA,gn,gc,MA,mn,mc,_,fn,fc,rfl,h.done,h.gc,h.mc,h.fs.cap.1,(h.gs.ao ap).mono fun b hp=>⟨by have:=hp.1;omega,by have:=hp.2;omega⟩,(h.ms.ao ap).mono fun b hp=>⟨by have:=hp.1;omega,by have:=hp.2;omega⟩,
  bp.sl (fun b ao hp=>⟨ad,ao⟩) (fun b ao hp=>⟨ad,ao⟩),Fr.low (M:=fun b=>b=S.heap.size) ((h.ext.mono fun _ h=>h.elim).trans O) fun k ap=>ad⟩
namespace zM
theorem di{p:Prop}(h:p:=by
 try simp only[Gv]
 generalize ah:World.setCell _ _ _=X;have aU:=ae (ah▸a8.o);clear ah a8 e0 e1 e2 a9 gK ag W;go_wp2_with (fail);go_roundw
 case rel=>exact⟨i+1,bZ,F.set i {f with body:=.ef ls},by go_num,ad,aU.o⟩
 case measure=>simp[intOf];omega
 ):p:=h
end zM
open zM in
theorem FL(S:World)(gW:Value)(bI bq:Act→World→Prop)(ac:∀a ab,Code.wp prog (l3 32) (Exit.then bq (bodyPost prog Tryz.f24 (jh S))) a ab→bI a ab)(J:∀a ab,Code.wp prog (DF 42) (bodyPost prog Tryz.f24 (jh S)) a ab→bq a ab) :
  BI S gW (Exit.then bq (bodyPost prog Tryz.f24 (jh S))) bI:=by
 unfold BI;intro I A n c l ar MA mn mc M GA gn gc G o u FA fn fc F hZ h0 gE gM u8 gG eO gi gj b8 bi g u16 s bG eP eQ eR eS eT eU eV eW eX eY eZ e3 e4 u32 e5 e6 e7 e8 e9 fa fb fd fe ff fh fi fj fk fl fm fo fp fq fr fs ft fu fv fw fx fy fz fA fB fC u64 fD fF fG fH fI fJ fK fL fM fN fO fP fQ fR fS fT fU fV fW fX fY fZ f0 f1 f2 f3 f6 f7 f8 f9 ga gb gd ge gf am aE aL aP a3 a4 a6 a7 bg bh bk bp br bs bt bz bC bL bY b0 b6 b7 ca cg ci cn cq ct cv cw cx cz cB cC cD cE cF cG cH cI cJ cK cL cM cN cO cP cQ cR cS cT cU cV cX cY cZ c5 c7 c8 c9 da db dc dd de df dg dh dj dk dl dm dn dp dq ds dt du dv dx dy dz dB dC dD dE dF dG dH dI dJ dK dL dM dO dP dQ dR dT dV dW dX dY dZ d0 d1 d2 d3 d4 d5 d6 d7 d9 ea eb ec ed ee ef eg ei ek el em en eo ep eq er es et eu ev ew ex ey ez eA eB eC eD eE eF eG eH eI eJ eK eM bu go gp gq gr gs gt gu gv gw gx gA gB gC gD w cW U;obtain⟨fg,rfl,aV⟩:=U.FL cW;have gF:=ae aV;clear U aV;conv=>arg 2;whnf
 conv at ac=>enter [a,w,1,2];whnf
 conv at J=>enter [a,w,1,2];whnf
 go_wp2_with (fail);go_loopw [16] (fun cp wr=>∃(i L:Nat) (F:List aG),cp=.int .i64 i∧i≤fn∧mV S I A n c l ar MA mn mc M GA gn gc G o u fg fn fc wr F i L) (fun cp _=>fn - (intOf cp).toNat)
 case atStart=>exact⟨0,24,F,rfl,ad,gF.o⟩
 case round=>
  obtain⟨i,L,F,rfl,aJ,U⟩:=hrel;obtain⟨cu,rfl⟩:∃cu,cu=wr:=⟨wr,rfl⟩
  clear gF;have b9:=ae U;obtain⟨a0,al,af⟩:=U.blk.two;have b4:=U.hD;have aH:=U.own;clear U;by_cases ao:i<fn
  ·have gH:(i:Int)<(fn:Int):=ad;have gU:(0:Int)≤(i:Int):=ad;obtain⟨f,QA,ch,qc,f4,bn,bc,aw,bv,gI,dw,N⟩:=b9.EY ao;have bT:=aK aw dw N;have R:f.params.length=ch:=by have:=dw.1;simpa using this
   clear aw dw N;have aM:=ae b9.len.2.2;have b2:Gr (fun _=>False) cu.heap.size 9 1 (cu.alloc (.cells #[] 9)) (some ⟨cu.heap.size,0,none⟩) 0 0 []:=Gr.lit (w:=cu) (n:=0) (l:=[]) rfl (by rfl) ad (by simp only[D.aL]);have t:Ext cu (cu.alloc (.cells #[] 9)):=GN.alloc _;have aC:Src (cu.alloc (.cells #[] 9)) 1 o gn ((G.map (·.1)).map Value.string):=rV (b9.al t).vs;have r:o=none→gn=0:=fun h=>by subst h;exact Sl.none_ b9.vs
   have cf:cu.heap.size≤(cu.alloc (.cells #[] 9)).heap.size:=by simp
   have bW:=b9.ng;have bF:=b9.nf.2;go_upto_region 36 with(at_builtin;go_loud (refine oM jt rfl (.tmp 194) (.tmp 195) rfl b2 (l7 (G.map (·.1))) (by rw[Gf,Gf];exact aM.o) aC r rfl rfl ad ad cf ?_);intro cl c3 bJ bo P bV aW;have az:=ai bo P;clear bo P bV aW);have ay:Ext cu bJ:=t.eg (az.2.below (by simp) fun k ap h=>by
    simp[Value.ownBlock] at h;omega)
   have bo:=az.1;simp only[Gv,GG] at bo;have bH:=ai ay bo;clear ay bo az b2 t aC r cf a0 al af
   try simp only[Gv]
   go_wp2_with (fail);go_loopw [17,18] (fun aI bf wr=>∃(j:Nat) (au:GR) (on bj:Nat),aI=.slice au on bj∧bf=.int .i64 j∧j≤ch∧Ext cu wr∧Gr (fun _=>False) cu.heap.size 9 1 wr au on bj ((G.map (·.1)++cc (f.params.take j)).map D.s)) (fun _ bf _=>ch - (intOf bf).toNat)
   case atStart=>exact⟨0,cl,gn,c3,rfl,rfl,ad,bH.1,by simpa [cc] using bH.2⟩
   case round=>
    obtain⟨j,au,on,bj,rfl,rfl,ba,av,bR⟩:=hrel;clear bH;have Q:on=(G.map (·.1)).length+(cc (f.params.take j)).length:=by have:=bR.len;simpa using this.symm
    have c2:on≤4:=by
     have cr:=qg (f.params.take j);have aY:=aM.o;rw[List.length_take] at cr;rw[Gf] at Q;omega
    have aZ:=bO (b9.al av) av bR (bT.2.2.ao (av.block fg aH.2 (fun h=>h)));have aj:=ae R;have bE:=ae Q;have aF:=av.size;clear av bR R Q;obtain⟨a0,al,af⟩:=aZ.1.blk.two;obtain⟨e0,e1,e2⟩:=aZ.2.2.2;by_cases T:j<ch
    ·have gl:(j:Int)<(ch:Int):=ad;have cy:(0:Int)≤(j:Int):=ad;obtain⟨eN,gO,q,cs,bQ,eL,hm,aX,a1,hc⟩:=Sl.fJ (z:=2) (bT.2.1.ao fun b O=>aZ.2.1.block b O.2 (fun h=>h)) (fun _=>rfl) T;obtain rfl:=qx.1 aX;subst bQ;have c0:=hc 0 _ rfl;have c1:=hc 1 _ rfl;simp only[Gl] at c0 c1;have dr:=ae hm;clear aX hc a1 hm eL;obtain⟨co,ej⟩:=q;simp only at c0 c1;have aR:=o1 dr.o
     cases ej with
     | true=>
      go_wp2_with (fail);go_roundw
      case rel=>exact⟨j+1,au,on,bj,rfl,by go_num,ad,aZ.2.1,by rw[aR];simpa using aZ.2.2.1⟩
      case measure=>simp[intOf];omega
     | false=>
      have hd:(D.s co).rep wr (j2 (fun _=>False) wr (.slice au on bj)) [.string co]:=by simp only[D.rep]
      have c6:=ae hd;clear hd;go_wp2_with (at_builtin;refine bS jt rfl (.tmp 225) (.tmp 239) rfl aZ.2.2.1 c6.o rfl rfl rfl ad ad aF ?_;intro a2 fE bJ an aq b3 ce;have bB:=ai an aq;clear an aq b3 ce);have bN:∀b,(Value.slice au on bj).ownBlock=some b→cu.heap.size≤b:=fun b O=>(aZ.2.2.1.lt O).1;have aO:Ext cu bJ:=aZ.2.1.eg (bB.2.below aF fun k ap h=>by have:=bN k h;omega);have bD:=ae aO;clear bN aO;go_roundw
      case rel=>exact⟨j+1,a2,on+1,fE,rfl,by go_num,ad,bD.o,by rw[aR];simpa [Gi,←List.append_assoc] using bB.1⟩
      case measure=>simp[intOf];omega
    ·obtain rfl:j=ch:=ad;have f5:f.params.take j=f.params:=Gj (aB aj.o);have y:=aZ.1.al GN.drew;have ag:=aZ.2.2.2.ao (ab:=wr.drew) rfl;have ak:=aZ.2.2.1.al GN.drew;rw[f5] at ak;have W:=y.blk;have aS:=y.own;have dS:(G.map (·.1)++cc f.params).length+L≤60:=by
      have cr:=bE.o;rw[f5] at cr;have aY:=y.jE;rw[Gd];omega
     have bX:=y.ko.free (f:=f) (Ge bT.1);have Z:=y.jE;have c6:=bO y ak dS bX;clear y ak dS bX f5;go_upto_region 41 with(fail);clear e0 e1 e2 a0 al af;refine jM (RW (S.heap.size+1) (.pointer (some ⟨S.heap.size+1,0,none⟩)) (.slice GA gn gc) (.slice MA mn mc) (.slice (some ⟨fg,0,none⟩) fn fc) (.bool ar)) [(0,3),(1,3),(2,3),(3,3),(4,0),(5,3),(6,3),(7,3),(8,3),(9,3),(10,3),(11,0),(12,3),(13,3),(14,0),(15,3),(16,1),(17,3),(18,3),(19,2)] (by kernel_rfl) (by kernel_rfl) (fun w=>RW.refl w) (fun _ _ _ h k=>h.trans k) (fun _ _ d _ _ h=>by cases d<;>exact h) ?_
     iterate 4 refine pf ?_
     refine bm (v:=?_) rfl (by rfl) (fun V hV=>?_) ?_;rotate_left
     ·obtain⟨b1,bP⟩:=hV.wb _ W;obtain⟨hVc,hVf,dS⟩:=bP.two
      (go_simp<;>with_reducible rfl)
     try simp only[PU]
     iterate 6 refine pf ?_
     refine bm (v:=?_) rfl (by rfl) (fun V hV=>?_) ?_;rotate_left
     ·obtain⟨b1,bP⟩:=hV.wb _ W;obtain⟨hVc,hVf,dS⟩:=bP.two
      (go_simp<;>with_reducible rfl)
     try simp only[PU]
     iterate 2 refine pf ?_
     refine bm (v:=?_) rfl (by rfl) (fun V hV=>?_) ?_;rotate_left
     ·obtain⟨e0,e1,e2⟩:=ag.ao (hV.fr.block fg aS.2 ad)
      (go_simp<;>with_reducible rfl)
     try simp only[PU]
     refine pf ?_;refine aA rfl (fun K hK=>?_);go_simp;refine(By ⟨S.heap.size+1,S.heap.size+1+1,A,n,c,l,GA,gn,gc,MA,mn,mc,some ⟨fg,0,none⟩,fn,fc,M,F,ar⟩ L (G.map (·.1)++cc f.params) (a5 ⟨G,M,F⟩++f.params.map (·.1)) au on bj f.name f.params QA j qc (.slice f4 bn bc) wr.drew c6.1.wr (c6.2.1.sl (fun b _ h=>h.elim) (fun b O aT=>⟨O,fun hm=>by rcases hm with hm|hm<;>(simp only at hm;omega)⟩)) c6.2.2.1 (fun k ap=>c6.2.2.2 k ad) ((bT.2.1.ao fun b O=>(aZ.2.1.trans GN.drew).block b O.2 (fun h=>h)).mono fun b O=>⟨by have:=O.2;have:=aF;show b<wr.heap.size;omega,fun hm=>by have:=O.1;rcases hm with hm|hm<;>(simp only at hm;omega)⟩) bv).mono ?_;rintro e aQ ⟨ls,bZ,cj,cd,b5,rfl,c4,ce,bK,bU,aa⟩;have m:¬(fg=S.heap.size+1∨fg=S.heap.size+1+1):=ad;have aN:=m;obtain⟨cur,E⟩:=c6.1.fs.FB;have a9:=(E.on aa m).frozen;have gK:=(E.on aa m).lt;obtain⟨e0,e1,e2⟩:=ag.ao (aa.block fg aS.2 m);have a8:=ae (c6.1.body bT.1 bU aa c4 ce bK);refine hK _ _ (⟨aa,fun _ _=>⟨bZ,bU.blk⟩⟩) ?_;clear hK K
     try simp only[PU]
     clear c4 ce bK bU aa E m aN
     iterate 2 refine pf ?_
     exact dN
  ·have gH:¬(i:Int)<(fn:Int):=ad;have H:i=fn:=ad;have bl:=ae H;clear H;have dU:=b9.res;obtain⟨bx,bd,be⟩:=dU.two;clear dU;go_wp2_with (fail);generalize cb:World.setCell _ _ _=Y;have U:=b9.o;rw[bl.o] at U;obtain⟨bA,bw,bb⟩:=dA (M:=fun _=>False) [.slice GA gn gc,.slice MA mn mc,.slice (some ⟨fg,0,none⟩) fn fc] (by rfl) U.res (w:=S) U.ext (Gb _) cb;have bM:=ae (U.FN bb);clear bx bd be cb U bb a0 al af;obtain⟨bx,bd,be⟩:=bA.two;refine GM (v:=.agg #[.slice GA gn gc,.slice MA mn mc,.slice (some ⟨fg,0,none⟩) fn fc]) (by simp[results,Tryz.results24,go_sem,bx]) rfl ?_;exact bM.o
end Go.Proofs.YtjhgbdckgkppnaaGreat

/- Part 38 of the proof. No condition of its own. -/
import Derived.Test.YtflecliffjbleaaGreatQ37
namespace Go.Proofs.YtflecliffjbleaaGreat
open Go.RowKit Go.Proofs.Tryz
set_option maxRecDepth 1000000
set_option maxHeartbeats 25600000
set_option linter.unusedVariables false
variable{B g z:Nat}{P:Nat->Prop}{e:TypeId}{f:aA}
theorem me{w:World}{cs:List Value}:(dr f).rep w P cs↔∃(A:LP) (n c:Nat) (A2:LP) (n2 c2:Nat),cs=[.string f.name,.slice A n c,.slice A2 n2 c2]/\n<=c/\Sl w P A n (f.params.map ct)/\n2<=c2/\Sl w P A2 n2 (cY f.body):=by
 unfold dr;rw[bB,ch];constructor
 .rintro⟨y,rfl,h⟩;obtain⟨A,n,c,br,rfl,hc,hs,h⟩:=aF.1 h;obtain⟨A2,n2,c2,aa,rfl,bR,bv,h⟩:=aF.1 h;rw[aK] at h;subst h;exact⟨A,n,c,A2,n2,c2,rfl,hc,hs,bR,bv⟩
 .rintro⟨A,n,c,A2,n2,c2,rfl,hc,hs,bR,bv⟩;exact⟨_,rfl,aF.2 ⟨A,n,c,_,rfl,hc,hs,aF.2 ⟨A2,n2,c2,[],rfl,bR,bv,aK.2 rfl⟩⟩⟩
theorem rN(f:aA):(dr f).sz=3:=rfl
theorem sb{w:World}{P:Nat->Prop}{b:ak}{bx:LP}{on bp:Nat}(hc:on<=bp)(da:Sl w P bx on (cY b)):∀(F:List aA) (i:Nat) (xs:List Value) (f:aA),D.aJ w P (F.map dr) xs->F[i]?=some f->D.aJ w P ((F.set i {f with body:=b}).map dr) (xs.set (i*3+2) (.slice bx on bp))
 | [],i,xs,f,h,J=>by simp at J
 | x::F,0,xs,f,h,J=>by
  simp only[List.getElem?_cons_zero,LG] at J;subst J;rw[Lh] at h;obtain⟨k,d,rfl,hx,a4⟩:=gK.1 h;obtain⟨A,n,c,A2,n2,c2,rfl,ae,aD,_,_⟩:=me.1 hx;rw[List.set_cons_zero,Lh]
  exact gK.2 ⟨[.string x.name,.slice A n c,.slice bx on bp],d,rfl,me.2 ⟨A,n,c,bx,on,bp,rfl,ae,aD,hc,da⟩,a4⟩
 | x::F,i+1,xs,f,h,J=>by
  rw[List.getElem?_cons_succ] at J;rw[Lh] at h;obtain⟨k,d,rfl,hx,a4⟩:=gK.1 h;have hl:=(D.lz _ _ hx).trans (rN x);have ao:=sb hc da F i d f a4 J;rw[List.set_cons_succ,Lh,List.set_append_right _ _ ab,hl,show (i+1)*3+2 - 3=i*3+2 by omega];exact gK.2 ⟨_,_,rfl,hx,ao⟩
theorem Gr.JP{w:World}{n c i:Nat}{F:List aA}{b:ak}{bx:LP}{on bp:Nat}(h:Gr P B e 3 w (some ⟨g,0,none⟩) n c (F.map dr))(J:F[i]?=some f)(hc:on<=bp)(da:Sl w (lu P w (.slice (some ⟨g,0,none⟩) n c)) bx on (cY b)):
  Gr P B e 3 (w.setCell ⟨g,i*3+2,none⟩ (.slice bx on bp)) (some ⟨g,0,none⟩) n c ((F.set i {f with body:=b}).map dr):=by
 obtain⟨hl,xs,ae,aD⟩:=h;have H:Fr (λb=>b=g) w (w.setCell ⟨g,i*3+2,none⟩ (.slice bx on bp)):=(Fr.refl (λb=>b=g) w).setCell (.inl rfl) _;have hs:=H.size;have ax:=(List.getElem?_eq_some_iff.1 J).1;refine⟨by simpa using hl,xs.set (i*3+2) (.slice bx on bp),⟨by rw[List.length_set];exact ae.1,?_⟩,?_⟩
 .rcases ae.2 with⟨bD,_⟩|⟨aw,cap,cur,bD,O,aK,hn,bo,U,ht⟩
  .cases bD
  .injection bD with aW _ Z;injection aW with aW;injection aW with aW;subst aW;refine .inr ⟨g,cap,cur.setIfInBounds (i*3+2) (.slice bx on bp),by rw[Z],O,an.aD (show an w g e cur from aK) (i*3+2) _,hn,bo,by simpa using U,?_⟩;rw[Array.toList_setIfInBounds,List.take_set,ht]
 .refine D.bQ (λb O=>⟨O.1,Lc O.2.1 hs,O.2.2⟩) _ _ (D.bP (λb O=>H.block b O.2.1 λj=>O.2.2 ?_) _ _ (sb hc da F i xs f aD J));subst j;rfl
theorem Gr.Jm{w:World}{n c:Nat}{A:LP}{l:List D}(h:Gr P B e z w A n c l)(hn:0<n):∃g,A=some ⟨g,0,none⟩/\B<=g/\g<w.heap.size:=by
 obtain⟨_,xs,ae,_⟩:=h;rcases ae.2 with⟨_,h0⟩|⟨g,cap,cur,bD,O,aK,_⟩
 .omega
 .injection bD with bD _ _;exact⟨g,bD,O,(Array.getElem?_eq_some_iff.1 aK).1⟩
structure oO(S:World)(u:Nat)(A:LP)(n c:Nat)(l:List Int)(ar:Bool)(MA:LP)(mn mc:Nat)(M:List bF)(GA:LP)(gn gc:Nat)(G:List (ByteArray×Int))(au:LP)(a8:Nat)(fg fn fc:Nat)(w:World)(F:List aA)(i L:Nat):Prop where
 src:cc w (S.heap.size+1) A n c l
 blk:an w (S.heap.size+1+1) 169 #[.pointer (some ⟨S.heap.size+1,0,none⟩),.slice GA gn gc,.slice MA mn mc,.slice (some ⟨fg,0,none⟩) fn fc,.int .i64 L,.bool ar]
 res:an w S.heap.size 70 #[.slice none 0 0,.slice none 0 0,.slice none 0 0]
 ms:Sl w (λb=>S.heap.size+1+1+1<=b/\b<u) MA mn (M.map ek)
 gs:Sl w (λb=>S.heap.size+1+1+1<=b/\b<u) GA gn (G.map ix)
 vs:Sl w (λb=>S.heap.size+1+1+1<=b/\b<u) au gn ((G.map (·.1)).map D.s)
 fs:Gr (λb=>u<=b) u 137 3 w (some ⟨fg,0,none⟩) fn fc (F.map dr)
 mc:mn<=mc
 gc:gn<=gc
 nm:1<=mn/\mn<=4
 ok:nr M
 ng:gn<=2
 zp:sq G
 nf:1<=fn/\fn<=4
 bd:vp G M F i L
 kP:L<=24
 ext:Ext S w
 hD:S.heap.size+1+1+1<=u/\u<=w.heap.size
section
variable {S w ac:World} {u:Nat} {A:LP} {n c:Nat} {l:List Int} {ar:Bool} {MA:LP} {mn mc:Nat} {M:List bF} {GA:LP} {gn gc:Nat} {G:List (ByteArray×Int)} {au:LP} {a8:Nat} {FA:LP} {fg fn fc:Nat} {F:List aA} {i L R:Nat}
theorem zv.JH(h:zv S u w A n c l ar MA mn mc M GA gn gc G au a8 FA fn fc F)(hn:1<=fn):∃fg,FA=some ⟨fg,0,none⟩/\oO S u A n c l ar MA mn mc M GA gn gc G au a8 fg fn fc w F 0 24:=by
 obtain⟨fg,rfl,_⟩:=h.fs.Jm ab;exact⟨fg,rfl,h.src,h.blk,h.res,h.ms,h.gs,h.vs,h.fs,h.mc,h.gc,h.nm,h.ok,h.ng,h.zp,⟨hn,h.nf⟩,h.Js.start,Lb _,h.ext,h.hD⟩
theorem oO.len(h:oO S u A n c l ar MA mn mc M GA gn gc G au a8 fg fn fc w F i L):F.length=fn/\M.length=mn/\G.length=gn:=⟨by have:=h.fs.len;simpa using this,by have:=h.ms.1;simpa using this,by have:=h.gs.1;simpa using this⟩
theorem oO.own(h:oO S u A n c l ar MA mn mc M GA gn gc G au a8 fg fn fc w F i L):u<=fg/\fg<w.heap.size:=h.fs.lt rfl
theorem oO.iT(h:oO S u A n c l ar MA mn mc M GA gn gc G au a8 fg fn fc w F i L):∀f∈F,f.params.length<=2:=λf J=>by
 obtain⟨i,ak⟩:=List.getElem?_of_mem J;obtain⟨n,hn,hp⟩:=(h.bd.lP i f ak).2.1;have:=congrArg List.length hp;rw[Lf,mo] at this;omega
theorem oO.aj(h:oO S u A n c l ar MA mn mc M GA gn gc G au a8 fg fn fc w F i L)(O:Ext w ac):oO S u A n c l ar MA mn mc M GA gn gc G au a8 fg fn fc ac F i L:=by
 have hD:=h.hD;have ai:∀b,(S.heap.size+1+1+1<=b/\b<u)->ac.heap[b]?=w.heap[b]?:=λb hp=>O.block b (aC hp.2) (λh=>h);exact⟨h.src.cM O λ_ _ h=>h,h.blk.aj O,h.res.aj O,h.ms.ai ai,h.gs.ai ai,h.vs.ai ai,h.fs.aj O,h.mc,h.gc,h.nm,h.ok,h.ng,h.zp,h.nf,h.bd,h.kP,h.ext.trans O,hD.1,by have:=O.size;omega⟩
theorem oO.wr(h:oO S u A n c l ar MA mn mc M GA gn gc G au a8 fg fn fc w F i L):gq w ⟨S.heap.size+1,S.heap.size+1+1,A,n,c,l,GA,gn,gc,MA,mn,mc,some ⟨fg,0,none⟩,fn,fc,M,F,ar⟩ L:=by
 have hD:=h.hD;exact⟨h.src,h.blk,Nat.lt_succ_self _,h.ms.mono λb O=>⟨ab,λhm=>by rcases hm with hm|hm<;>(simp only at hm;omega)⟩,h.fs.sl (λb O hp=>⟨O,λhm=>by rcases hm with hm|hm<;>(simp only at hm;omega)⟩) (λb O hp=>⟨O,λhm=>by rcases hm with hm|hm<;>(simp only at hm;omega)⟩),h.nm,h.nf,
  λm hm=>by obtain⟨k,ai⟩:=List.getElem?_of_mem hm;exact⟨(h.ok k m ai).2.1,(h.ok k m ai).2.2.1⟩,h.iT,h.kP⟩
theorem oO.lP(h:oO S u A n c l ar MA mn mc M GA gn gc G au a8 fg fn fc w F i L):gv ⟨G,M,F⟩:=rh.lP h.zp (pF h.len.2.2 h.ng) h.ok (pF h.len.2.1 h.nm) h.bd.lP (pF h.len.1 h.nf)
theorem oO.body(h:oO S u A n c l ar MA mn mc M GA gn gc G au a8 fg fn fc w F i L){f:aA}(J:F[i]?=some f){ls:List ax}{bx:LP}{on bp:Nat}
  (hw:gq ac ⟨S.heap.size+1,S.heap.size+1+1,A,n,c,l,GA,gn,gc,MA,mn,mc,some ⟨fg,0,none⟩,fn,fc,M,F,ar⟩ R) (O:Fr (λb=>b=S.heap.size+1\/b=S.heap.size+1+1) w ac)
  (hm:Made (fo ⟨G,M,F⟩ f) 2 (fF ⟨G,M,F⟩++cy f.params) (ba ⟨G,M,F⟩++f.params.map (·.1)) L R ls) (hc:on<=bp) (hs:Sl ac (fresh w ac) bx on (ls.map a9)) :
  oO S u A n c l ar MA mn mc M GA gn gc G au a8 fg fn fc (ac.setCell ⟨fg,i*3+2,none⟩ (.slice bx on bp)) (F.set i {f with body:=.eH ls}) (i+1) R:=by
 have hD:=h.hD;have bl:=h.own;have U:=O.size;have ay:Fr (λb=>b=fg) ac (ac.setCell ⟨fg,i*3+2,none⟩ (.slice bx on bp)):=(Fr.refl (λb=>b=fg) ac).setCell (.inl rfl) _;have bC:=ay.size;have ai:∀b,(S.heap.size+1+1+1<=b/\b<u)->(ac.setCell ⟨fg,i*3+2,none⟩ (.slice bx on bp)).heap[b]?=w.heap[b]?:=λb hp=>(ay.block b (aC hp.2) (aC hp.2)).trans (O.block b (aC hp.2) λaH=>by have:=hp.1;rcases aH with aH|aH<;>omega);have aK:Gr (λb=>u<=b) u 137 3 ac (some ⟨fg,0,none⟩) fn fc (F.map dr):=h.fs.cS O λb hm _=>by rcases hm with hm|hm<;>exact⟨ab,ab⟩
 have aF:Ext S ac:=Fr.low (M:=λb=>b=S.heap.size+1\/b=S.heap.size+1+1) ((h.ext.mono λ_ h=>h.elim).trans O) λk ai=>by rcases ai with ai|ai<;>omega
 refine⟨hw.src.cM ay λb aw aH=>by simp only at aw;omega,hw.blk.on ay (by show ¬S.heap.size+1+1=fg;omega),(h.res.on O ab).on ay ab,h.ms.ai ai,h.gs.ai ai,h.vs.ai ai,?_,h.mc,h.gc,h.nm,h.ok,h.ng,h.zp,h.nf,h.bd.next J hm,hw.kP,
  Fr.low (M:=λb=>b=fg) ((aF.mono λ_ h=>h.elim).trans ay) λk ai=>by have:=h.ext.size;omega,hD.1,ab⟩
 refine aK.JP J hc ?_;rw[mO];exact hs.mono λb O=>⟨by have:=O.1;omega,O.2,λh=>by injection h with h;have:=O.1;simp only at h;omega⟩
theorem oO.done(h:oO S u A n c l ar MA mn mc M GA gn gc G au a8 fg fn fc w F fn L):oK ⟨G,M,F⟩:=by
 have hl:=h.len;have O:=h.bd;rw[<-hl.1] at O;exact O.wf h.zp (aC h.ng) h.ok (aC h.nm) (aC h.nf)
end
structure RW(s:Nat)(v0 v1 v2 bz bi:Value)(w ac:World):Prop where
 fr:Fr (λb=>b=s\/b=s+1) w ac
 wb:∀L:Int,an w (s+1) 169 #[v0,v1,v2,bz,.int .i64 L,bi]->∃R:Int,an ac (s+1) 169 #[v0,v1,v2,bz,.int .i64 R,bi]
theorem RW.refl{s:Nat}{v0 v1 v2 bz bi:Value}(w:World):RW s v0 v1 v2 bz bi w w:=⟨LL,λL h=>⟨L,h⟩⟩
theorem RW.trans{s:Nat}{v0 v1 v2 bz bi:Value}{w ac aV:World}(h:RW s v0 v1 v2 bz bi w ac)(k:RW s v0 v1 v2 bz bi ac aV):RW s v0 v1 v2 bz bi w aV:=⟨h.fr.trans k.fr,λL O=>by
 obtain⟨bC,ae⟩:=h.wb L O;exact k.wb bC ae⟩
theorem Ey(p:ks)(L:Nat)(V T:LQ)(I:LP)(bl aa:Nat)(aY:ByteArray)(ps:List (ByteArray×Bool))(QA:LP)(cg qc:Nat)(bT:Value)(w:World)(hw:gq w p L)(hN:Sl w (off p.MW w) I bl (V.map D.s))(hV:V.length+L<=60)(J:mD T L)
  (cq:Sl w (off p.MW w) QA cg (ps.map ct)) (br:cg<=2):Calls prog 96 #[.pointer (some ⟨p.wb,0,none⟩),.agg #[.string aY,.slice QA cg qc,bT],.slice I bl aa,.int .i64 2,.int .i64 6] w (F8 p 2 V T ps L w):=
 xi p L 2 6 V T I bl aa aY ps QA cg qc bT w ab ab hw hN hV J cq br
structure EM(fg i:Nat)(f:aA)(QA:LP)(cg qc:Nat)(bT:LP)(bn fk:Nat)(w:World):Prop where
 c0:w.cell? ⟨fg,i*3,none⟩=some (.string f.name)
 c1:w.cell? ⟨fg,i*3+1,none⟩=some (.slice QA cg qc)
 c2:w.cell? ⟨fg,i*3+2,none⟩=some (.slice bT bn fk)
theorem EM.ai{fg i:Nat}{f:aA}{QA:LP}{cg qc:Nat}{bT:LP}{bn fk:Nat}{w ac:World}(h:EM fg i f QA cg qc bT bn fk w)(ai:ac.heap[fg]?=w.heap[fg]?):EM fg i f QA cg qc bT bn fk ac:=
 ⟨(World.cell?_of_block (w:=w) ai).trans h.c0,(World.cell?_of_block (w:=w) ai).trans h.c1,(World.cell?_of_block (w:=w) ai).trans h.c2⟩
theorem oO.IL{S w:World}{u:Nat}{A:LP}{n c:Nat}{l:List Int}{ar:Bool}{MA:LP}{mn mc:Nat}{M:List bF}{GA:LP}{gn gc:Nat}{G:List (ByteArray×Int)}{au:LP}{a8:Nat}{fg fn fc:Nat}{F:List aA}{i L:Nat}
  (h:oO S u A n c l ar MA mn mc M GA gn gc G au a8 fg fn fc w F i L) (ak:i<fn):∃(f:aA) (QA:LP) (cg qc:Nat) (bT:LP) (bn fk:Nat),F[i]?=some f/\cg<=2/\cg<=qc/\Sl w (λb=>u<=b/\b<w.heap.size) QA cg (f.params.map ct)/\EM fg i f QA cg qc bT bn fk w:=by
 obtain⟨b5,cG,f,cs,U,bk,r,I,bi,hc⟩:=Sl.gZ (z:=3) (h.fs.sl (Q:=λb=>u<=b/\b<w.heap.size) (λb aw h=>⟨h,aw⟩) (λb aw h=>⟨h,aw⟩)) (λ_=>rN _) ak;obtain⟨QA,cg,qc,bT,bn,fk,rfl,gK,eJ,_,_⟩:=me.1 I;injection U with U;injection U with ae aD aU;subst ae;subst aD;have br:cg<=2:=by
  have a1:=h.iT f (Le r);have cd:=eJ.1;rw[Lf] at cd;omega
 have c0:=hc 0 _ rfl;have c1:=hc 1 _ rfl;have c2:=hc 2 _ rfl;simp only[Lt,Ll] at c0 c1 c2;exact⟨f,QA,cg,qc,bT,bn,fk,r,br,gK,eJ,c0,c1,c2⟩
theorem Gr.Jl{w:World}{n c:Nat}{l:List D}(h:Gr P B e z w (some ⟨g,0,none⟩) n c l):∃cur,an w g e cur:=by
 obtain⟨_,xs,ae,_⟩:=h;rcases ae.2 with⟨bD,_⟩|⟨aw,cap,cur,bD,O,aK,_⟩
 .cases bD
 .injection bD with bD _ _;injection bD with bD;injection bD with bD;subst bD;exact⟨cur,aK⟩
theorem rq{ps:List (ByteArray×Bool)}{j:Nat}{q:ByteArray×Bool}(h:ps[j]?=some q):cy (ps.take (j+1))=cy (ps.take j)++(if q.2 then [] else [q.1]):=by
 unfold cy;rw[List.take_add_one,h];obtain⟨x,b⟩:=q;cases b<;>simp
theorem s3(ps:List (ByteArray×Bool)):(cy ps).length<=ps.length:=by
 unfold cy;rw[Lf];exact List.length_filter_le _ _
theorem oO.JL{S w ac:World}{u:Nat}{A:LP}{n c:Nat}{l:List Int}{ar:Bool}{MA:LP}{mn mc:Nat}{M:List bF}{GA:LP}{gn gc:Nat}{G:List (ByteArray×Int)}{au:LP}{a8:Nat}{fg fn fc:Nat}{F:List aA}{L:Nat}
  (h:oO S u A n c l ar MA mn mc M GA gn gc G au a8 fg fn fc w F fn L) (O:Fr (λb=>b=S.heap.size) w ac):kj S (.returned (.agg #[.slice GA gn gc,.slice MA mn mc,.slice (some ⟨fg,0,none⟩) fn fc])) ac:=by
 have hD:=h.hD;have hs:=O.size;have ai:∀b,(S.heap.size+1+1+1<=b/\b<u)->ac.heap[b]?=w.heap[b]?:=λb hp=>O.block b (aC hp.2) (aC hp.1);have a5:Gr (λb=>u<=b) u 137 3 ac (some ⟨fg,0,none⟩) fn fc (F.map dr):=h.fs.cS O λb hm _=>⟨ab,ab⟩
 exact⟨⟨G,M,F⟩,GA,gn,gc,MA,mn,mc,_,fn,fc,rfl,h.done,h.gc,h.mc,h.fs.cap.1,(h.gs.ai ai).mono λb hp=>⟨by have:=hp.1;omega,by have:=hp.2;omega⟩,(h.ms.ai ai).mono λb hp=>⟨by have:=hp.1;omega,by have:=hp.2;omega⟩,
  a5.sl (λb aw hp=>⟨ab,aw⟩) (λb aw hp=>⟨ab,aw⟩),Fr.low (M:=λb=>b=S.heap.size) ((h.ext.mono λ_ h=>h.elim).trans O) λk ai=>ab⟩
namespace Cv
theorem fW{p:Prop}(h:p:=by
 try simp only[Lt]
 generalize hX:World.setCell _ _ _=X;have aR:=ad (hX▸bB.o);clear hX bB e0 e1 e2 bl f2 ag W;go_wp2_with(fail);go_roundw
 case rel=>exact⟨i+1,bJ,F.set i {f with body:=.eH ls},by go_num,ab,aR.o⟩
 case measure=>exact az
 ):p:=h
end Cv
open Cv in
theorem JH(S:World)(gM:Value)(ax af:Act->World->Prop)(ae:∀a ac,Code.wp prog (nM 32) (Exit.then af (bodyPost prog Tryz.f56 (kj S))) a ac->ax a ac)(aD:∀a ac,Code.wp prog (GX 42) (bodyPost prog Tryz.f56 (kj S)) a ac->af a ac) :
  ER S gM (Exit.then af (bodyPost prog Tryz.f56 (kj S))) ax:=by
 unfold ER;intro u A n c l ar MA mn mc M GA gn gc G au a8 FA fn fc F hr hs gD gJ u8 gF eK br gl ch aK a1 u16 bo bM eN eO eP eQ eR eS eV eW eY eZ e3 e4 e5 u32 e6 e7 e8 e9 fa fb fd fe ff fh fi fl fm fo fp fq fr fs ft fu fv fw fx fy fz fA fB fC fD fE fF u64 fG fH fI fJ fK fL fM fN fO fP fQ fR fS fT fU fX fY fZ f3 f4 f5 f6 f7 f8 f9 ga gb gd ge gf gg gh gi gj gk H am aF aI aJ aS a3 bb be bq bw bC bN bO bW bX b1 b2 b5 b6 ca ci cl cm co cq cr cu cv cw cx cA cC cD cE cF cG cH cI cK cL cM cN cO cP cQ cR cS cT cU cV cW cX cY cZ c4 c5 c6 c7 c8 c9 da db dc dd de df dg dh di dk dl dm dn dr ds dt du dv dw dx dy dz dA dB dC dE dF dH dI dJ dK dM dN dO dP dQ dS dT dU dV dW dX dY dZ d0 d1 d2 d3 d4 d5 d6 d7 d8 d9 ea eb ec ed ee ef eg eh ej ek el em en eo ep eq er es et eu ev ew ex ey ez eA eB eC eD eE eF eG eH eI bQ go gp gq gr gs gt gu gv gw gx gy gz gB gC w bD aY;obtain⟨fg,rfl,bc⟩:=aY.JH bD;have a9:=ad bc;clear aY bc;conv=>arg 2;whnf
 conv at ae=>enter [a,w,1,2];whnf
 conv at aD=>enter [a,w,1,2];whnf
 go_wp2_with(fail);go_loopw [16] (λce wr=>∃(i L:Nat) (F:List aA),ce=.int .i64 i/\i<=fn/\oO S u A n c l ar MA mn mc M GA gn gc G au a8 fg fn fc wr F i L) (λce _=>fn - (intOf ce).toNat)
 case atStart=>exact⟨0,24,F,rfl,ab,a9.o⟩
 case round=>
  obtain⟨i,L,F,rfl,ak,aY⟩:=hrel;obtain⟨a6,rfl⟩:∃a6,a6=wr:=⟨wr,rfl⟩
  clear a9;have cb:=ad aY;obtain⟨a0,ap,aj⟩:=aY.blk.two;have cn:=aY.hD;have bZ:=aY.own;clear aY;by_cases aw:i<fn
  .have T:(i:Int)<(fn:Int):=ab;have f1:(0:Int)<=(i:Int):=ab;obtain⟨f,QA,cg,qc,bT,bn,fk,J,bs,gK,eJ,E⟩:=cb.IL aw;have bU:=aL J eJ E;have Q:f.params.length=cg:=by have:=eJ.1;simpa using this
   clear J eJ E;have aH:=ad cb.len.2.2;have bf:Gr (λ_=>False) a6.heap.size 9 1 (a6.alloc (.cells #[] 9)) (some ⟨a6.heap.size,0,none⟩) 0 0 []:=Gr.lit (w:=a6) (n:=0) (l:=[]) rfl (by rfl) ab (by simp only[D.aJ]);have m:Ext a6 (a6.alloc (.cells #[] 9)):=LL.alloc _;have av:Src (a6.alloc (.cells #[] 9)) 1 au gn ((G.map (·.1)).map Value.string):=vc (cb.aj m).vs;have g:au=none->gn=0:=λh=>by subst h;exact Sl.none_ cb.vs
   have b4:a6.heap.size<=(a6.alloc (.cells #[] 9)).heap.size:=by simp
   have b0:=cb.ng;have b8:=cb.nf.2;go_upto_region 36 with(at_builtin;go_loud (refine q0 kB rfl (.tmp 194) (.tmp 195) rfl bf (nS (G.map (·.1))) (by rw[Lf,Lf];exact aH.o) av g rfl rfl ab ab b4 ?_);intro ck c3 b3 a5 aP bF N;have bk:=ah a5 aP;clear a5 aP bF N);have bu:Ext a6 b3:=m.eI (bk.2.below (by simp) λk ai h=>by
    simp[Value.ownBlock] at h;omega)
   have a5:=bk.1;simp only[Lt,LD] at a5;have ao:=ah bu a5;clear bu a5 bk bf m av g b4 a0 ap aj
   try simp only[Lt]
   go_wp2_with(fail);go_loopw [17,18] (λR bt wr=>∃(j:Nat) (bx:LP) (on bp:Nat),R=.slice bx on bp/\bt=.int .i64 j/\j<=cg/\Ext a6 wr/\Gr (λ_=>False) a6.heap.size 9 1 wr bx on bp ((G.map (·.1)++cy (f.params.take j)).map D.s)) (λ_ bt _=>cg - (intOf bt).toNat)
   case atStart=>exact⟨0,ck,gn,c3,rfl,rfl,ab,ao.1,by simpa[cy] using ao.2⟩
   case round=>
    obtain⟨j,bx,on,bp,rfl,rfl,bd,aE,hG⟩:=hrel;clear ao;have Z:on=(G.map (·.1)).length+(cy (f.params.take j)).length:=by have:=hG.len;simpa using this.symm
    have c2:on<=4:=by
     have cd:=s3 (f.params.take j);have o:=aH.o;rw[List.length_take] at cd;rw[Lf] at Z;omega
    have aZ:=bG (cb.aj aE) aE hG (bU.2.2.ai (aE.block fg bZ.2 (λh=>h)));obtain⟨U,bL⟩:=aM Q Z;have aX:=aE.size;clear aE hG Q Z;obtain⟨a0,ap,aj⟩:=aZ.1.blk.two;obtain⟨e0,e1,e2⟩:=aZ.2.2.2;by_cases dp:j<cg
    .have f0:(j:Int)<(cg:Int):=ab;have b9:(0:Int)<=(j:Int):=ab;obtain⟨pb,gN,q,cs,bS,eM,hm,aQ,bi,hc⟩:=Sl.gZ (z:=2) (bU.2.1.ai λb O=>aZ.2.1.block b O.2 (λh=>h)) (λ_=>rfl) dp;obtain rfl:=tp.1 aQ;subst bS;have c0:=hc 0 _ rfl;have c1:=hc 1 _ rfl;simp only[Ll] at c0 c1;have dL:=ad hm;clear aQ hc bi hm eM;obtain⟨q1,cp⟩:=q;simp only at c0 c1;have a4:=rq dL.o
     cases cp with
     | true=>
      go_wp2_with(fail);go_roundw
      case rel=>exact⟨j+1,bx,on,bp,rfl,by go_num,ab,aZ.2.1,by rw[a4];simpa using aZ.2.2.1⟩
      case measure=>exact az
     | false=>
      have hd:(D.s q1).rep wr (lu (λ_=>False) wr (.slice bx on bp)) [.string q1]:=by simp only[D.rep]
      have cJ:=ad hd;clear hd;go_wp2_with(at_builtin;refine bI kB rfl (.tmp 225) (.tmp 239) rfl aZ.2.2.1 cJ.o rfl rfl rfl ab ab aX ?_;intro aU dD b3 al ay cf bR;have bY:=ah al ay;clear al ay cf bR);have aG:∀b,(Value.slice bx on bp).ownBlock=some b->a6.heap.size<=b:=λb O=>(aZ.2.2.1.lt O).1;have a2:Ext a6 b3:=aZ.2.1.eI (bY.2.below aX λk ai h=>by have:=aG k h;omega);have bK:=ad a2;clear aG a2;go_roundw
      case rel=>exact⟨j+1,aU,on+1,dD,rfl,by go_num,ab,bK.o,by rw[a4];simpa[Li,<-List.append_assoc] using bY.1⟩
      case measure=>exact az
    .obtain rfl:j=cg:=ab;have dG:f.params.take j=f.params:=Lj (aC U.o);have s:=aZ.1.aj LL.drew;have ag:=aZ.2.2.2.ai (ac:=wr.drew) rfl;have an:=aZ.2.2.1.aj LL.drew;rw[dG] at an;have W:=s.blk;have a7:=s.own;have eX:(G.map (·.1)++cy f.params).length+L<=60:=by
      have cd:=bL.o;rw[dG] at cd;have o:=s.kP;rw[Ld];omega
     have y:=s.lP.free (f:=f) (Le bU.1);have aW:=s.kP;have cJ:=bG s an eX y;clear s an eX y dG;go_upto_region 41 with(fail);clear e0 e1 e2 a0 ap aj;refine k3 (RW (S.heap.size+1) (.pointer (some ⟨S.heap.size+1,0,none⟩)) (.slice GA gn gc) (.slice MA mn mc) (.slice (some ⟨fg,0,none⟩) fn fc) (.bool ar)) [(0,3),(1,3),(2,3),(3,3),(4,0),(5,3),(6,3),(7,3),(8,3),(9,3),(10,3),(11,0),(12,3),(13,3),(14,0),(15,3),(16,1),(17,3),(18,3),(19,2)] (by kernel_rfl) (by kernel_rfl) (λw=>RW.refl w) (λ_ _ _ h k=>h.trans k) (λ_ _ d _ _ h=>by cases d<;>exact h) ?_
     iterate 4 refine pf ?_
     refine bH (v:=?_) rfl (by rfl) (λV hV=>?_) ?_;rotate_left
     .obtain⟨cj,bV⟩:=hV.wb _ W;obtain⟨hVc,hVf,eX⟩:=bV.two
      (go_simp<;>with_reducible rfl)
     try simp only[PU]
     iterate 6 refine pf ?_
     refine bH (v:=?_) rfl (by rfl) (λV hV=>?_) ?_;rotate_left
     .obtain⟨cj,bV⟩:=hV.wb _ W;obtain⟨hVc,hVf,eX⟩:=bV.two
      (go_simp<;>with_reducible rfl)
     try simp only[PU]
     iterate 2 refine pf ?_
     refine bH (v:=?_) rfl (by rfl) (λV hV=>?_) ?_;rotate_left
     .obtain⟨e0,e1,e2⟩:=ag.ai (hV.fr.block fg a7.2 ab)
      (go_simp<;>with_reducible rfl)
     try simp only[PU]
     refine pf ?_;refine aO rfl (λK hK=>?_);go_simp;refine(Ey ⟨S.heap.size+1,S.heap.size+1+1,A,n,c,l,GA,gn,gc,MA,mn,mc,some ⟨fg,0,none⟩,fn,fc,M,F,ar⟩ L (G.map (·.1)++cy f.params) (ba ⟨G,M,F⟩++f.params.map (·.1)) bx on bp f.name f.params QA j qc (.slice bT bn fk) wr.drew cJ.1.wr (cJ.2.1.sl (λb _ h=>h.elim) (λb O aN=>⟨O,λhm=>by rcases hm with hm|hm<;>(simp only at hm;omega)⟩)) cJ.2.2.1 (λk ai=>cJ.2.2.2 k ab) ((bU.2.1.ai λb O=>(aZ.2.1.trans LL.drew).block b O.2 (λh=>h)).mono λb O=>⟨by have:=O.2;have:=aX;show b<wr.heap.size;omega,λhm=>by have:=O.1;rcases hm with hm|hm<;>(simp only at hm;omega)⟩) bs).mono ?_;rintro e aV ⟨ls,bJ,cB,cz,ct,rfl,cc,bR,bv,P,aa⟩;have r:¬(fg=S.heap.size+1\/fg=S.heap.size+1+1):=ab;have aT:=r;obtain⟨cur,t⟩:=cJ.1.fs.Jl;have bl:=(t.on aa r).frozen;have f2:=(t.on aa r).lt;obtain⟨e0,e1,e2⟩:=ag.ai (aa.block fg a7.2 r);have bB:=ad (cJ.1.body bU.1 P aa cc bR bv);refine ei hK (⟨aa,λ_ _=>⟨bJ,P.blk⟩⟩) ?_;clear hK K;clear cc bR bv P aa t r aT
     iterate 2 refine pf ?_
     exact fV
  .have T:¬(i:Int)<(fn:Int):=ab;have I:i=fn:=ab;have bm:=ad I;clear I;have eT:=cb.res;obtain⟨bE,bg,bh⟩:=eT.two;clear eT;go_wp2_with(fail);generalize b7:World.setCell _ _ _=Y;have aY:=cb.o;rw[bm.o] at aY;obtain⟨bz,bA,bj⟩:=dR (M:=λ_=>False) [.slice GA gn gc,.slice MA mn mc,.slice (some ⟨fg,0,none⟩) fn fc] (by rfl) aY.res (w:=S) aY.ext (Lb _) b7;have bP:=ad (aY.JL bj);clear bE bg bh b7 aY bj a0 ap aj;obtain⟨bE,bg,bh⟩:=bz.two;refine LK (v:=.agg #[.slice GA gn gc,.slice MA mn mc,.slice (some ⟨fg,0,none⟩) fn fc]) (by simp[results,Tryz.results56,go_sem,bE]) rfl ?_;exact bP.o
end Go.Proofs.YtflecliffjbleaaGreat

/- Part 45 of the proof. No condition of its own. -/
import Derived.Test.YtglbpimocmhojaaGreatQ16
import Derived.Test.YtglbpimocmhojaaGreatQ44
namespace Go.Proofs.YtglbpimocmhojaaGreat
open Go.RowKit Go.Proofs.Tryz
set_option maxRecDepth 1000000
set_option maxHeartbeats 25600000
set_option linter.unusedVariables false
variable{T:List Tok}{F k:Nat}{P:Nat->Prop}{p:Prop}{w:World}
namespace CB
theorem dB(h:p:=by
 try simp only[KV]
 generalize hX:World.setCell _ _ _=X;have aQ:=ae (hX▸bo.o);clear hX bo e0 e1 e2 be f2 R y;go_wp2_with(fail);go_roundw
 case rel=>exact⟨i+1,a6,F.set i {f with body:=.eM ls},by go_num,ad,aQ.o⟩
 case measure=>exact aG
 ):p:=h
end CB
open CB in
theorem Jn(S:World)(gO:Value)(e4 bC:Act->World->Prop)(ac:∀a ab,Code.wp prog (nv 32) (Exit.then bC (bodyPost prog Tryz.f21 (kb S))) a ab->e4 a ab)(au:∀a ab,Code.wp prog (GI 42) (bodyPost prog Tryz.f21 (kb S)) a ab->bC a ab) :
  EJ S gO (Exit.then bC (bodyPost prog Tryz.f21 (kb S))) e4:=by
 unfold EJ;intro u A n c l ar MA mn mc M GA gn gc G av ba FA fn fc F hr hs gJ gN u8 gK eO go gp cc bQ a4 u16 bR cq eR eS eT eU eV eW eY eZ e3 e6 e7 e8 e9 u32 fa fb fd fe ff fh fi fk fl fm fo fp fq fr fs ft fv fw fx fy fz fA fB fC fD fE fF fG fH fI fJ u64 fK fL fM fN fO fP fQ fR fS fT fU fV fW fX fY fZ f3 f4 f5 f6 f7 f8 f9 ga gb gd ge gf gg gh gi gj gk gl gm H I am aF aL aM aN aX a1 a8 bb bd bm bp bt bz bA bD bJ bV bY b1 b5 b8 b9 cb ce ch cj cl co cp cx cy cz cA cB cD cE cG cH cM cN cO cP cR cS cT cU cV cW cX cY cZ c4 c5 c6 c7 c8 c9 da db dc dd de df dg dh di dj dk dl dm dn dp dr dt du dv dw dx dy dA dC dD dE dF dG dI dJ dK dM dQ dR dS dT dV dW dX dY dZ d0 d1 d2 d3 d4 d5 d6 d7 d8 d9 ea eb ec ed ee ef eg eh ei ej ek el em en eo ep eq er es et eu ev ew ex ey ez eA eB eC eD eE eF eG eH eI eJ eL eM gt gu gv gw gx gy gz gA gB gC gD gE gF gH gI w bw aZ;obtain⟨fg,rfl,a2⟩:=aZ.Jn bw;have bg:=ae a2;clear aZ a2;conv=>arg 2;whnf
 conv at ac=>enter [a,w,1,2];whnf
 conv at au=>enter [a,w,1,2];whnf
 go_wp2_with(fail);go_loopw [16] (λcu wr=>∃(i L:Nat) (F:List aJ),cu=.int .i64 i/\i<=fn/\ox S u A n c l ar MA mn mc M GA gn gc G av ba fg fn fc wr F i L) (λcu _=>fn - (intOf cu).toNat)
 case atStart=>exact⟨0,24,F,rfl,ad,bg.o⟩
 case round=>
  obtain⟨i,L,F,rfl,an,aZ⟩:=hrel;obtain⟨cL,rfl⟩:∃cL,cL=wr:=⟨wr,rfl⟩
  clear bg;have cn:=ae aZ;obtain⟨a0,ai,af⟩:=aZ.blk.two;have ca:=aZ.hD;have N:=aZ.own;clear aZ;by_cases ak:i<fn
  .have gM:(i:Int)<(fn:Int):=ad;have f1:(0:Int)<=(i:Int):=ad;obtain⟨f,QA,cg,qc,fu,bn,bc,J,bs,gr,bS,E⟩:=cn.Ig ak;have bU:=aD J bS E;have t:f.params.length=cg:=by have:=bS.1;simpa using this
   clear J bS E;have aj:=ae cn.len.2.2;have bk:Gr (λ_=>False) cL.heap.size 9 1 (cL.alloc (.cells #[] 9)) (some ⟨cL.heap.size,0,none⟩) 0 0 []:=Gr.lit (w:=cL) (n:=0) (l:=[]) rfl (by rfl) ad (by simp only[D.aQ]);have m:Ext cL (cL.alloc (.cells #[] 9)):=Ll.alloc _;have ay:Src (cL.alloc (.cells #[] 9)) 1 av gn ((G.map (·.1)).map Value.string):=uG (cn.ai m).vs;have g:av=none->gn=0:=λh=>by subst h;exact Sl.none_ cn.vs
   have b2:cL.heap.size<=(cL.alloc (.cells #[] 9)).heap.size:=by simp
   have a9:=cn.ng;have bT:=cn.nf.2;go_upto_region 36 with(at_builtin;go_loud (refine qC kq rfl (.tmp 194) (.tmp 195) rfl bk (nC (G.map (·.1))) (by rw[KH,KH];exact aj.o) ay g rfl rfl ad ad b2 ?_);intro cC c3 bX eN ao bI U;have bf:=ah eN ao;clear eN ao bI U);have a7:Ext cL bX:=m.eN (bf.2.below (by simp) λk ap h=>by
    simp[Value.ownBlock] at h;omega)
   have eN:=bf.1;simp only[KV,Le] at eN;have bW:=ah a7 eN;clear a7 eN bf bk m ay g b2 a0 ai af
   try simp only[KV]
   go_wp2_with(fail);go_loopw [17,18] (λaU b0 wr=>∃(j:Nat) (bq:Lp) (on b6:Nat),aU=.slice bq on b6/\b0=.int .i64 j/\j<=cg/\Ext cL wr/\Gr (λ_=>False) cL.heap.size 9 1 wr bq on b6 ((G.map (·.1)++cr (f.params.take j)).map D.s)) (λ_ b0 _=>cg - (intOf b0).toNat)
   case atStart=>exact⟨0,cC,gn,c3,rfl,rfl,ad,bW.1,by simpa[cr] using bW.2⟩
   case round=>
    obtain⟨j,bq,on,b6,rfl,rfl,bi,aw,hG⟩:=hrel;clear bW;have Q:on=(G.map (·.1)).length+(cr (f.params.take j)).length:=by have:=hG.len;simpa using this.symm
    have c2:on<=4:=by
     have cF:=sI (f.params.take j);have aY:=aj.o;rw[List.length_take] at cF;rw[KH] at Q;omega
    have aW:=bL (cn.ai aw) aw hG (bU.2.2.ak (aw.block fg N.2 (λh=>h)));obtain⟨aa,bM⟩:=aH t Q;have ag:=aw.size;clear aw hG t Q;obtain⟨a0,ai,af⟩:=aW.1.blk.two;obtain⟨e0,e1,e2⟩:=aW.2.2.2;by_cases dq:j<cg
    .have dL:(j:Int)<(cg:Int):=ad;have dH:(0:Int)<=(j:Int):=ad;obtain⟨pb,eX,q,cs,bu,dN,hm,a5,bj,hc⟩:=Sl.g0 (z:=2) (bU.2.1.ak λb O=>aW.2.1.block b O.2 (λh=>h)) (λ_=>rfl) dq;obtain rfl:=sX.1 a5;subst bu;have c0:=hc 0 _ rfl;have c1:=hc 1 _ rfl;simp only[KN] at c0 c1;have cQ:=ae hm;clear a5 hc bj hm dN;obtain⟨q1,cI⟩:=q;simp only at c0 c1;have aP:=qU cQ.o
     cases cI with
     | true=>
      go_wp2_with(fail);go_roundw
      case rel=>exact⟨j+1,bq,on,b6,rfl,by go_num,ad,aW.2.1,by rw[aP];simpa using aW.2.2.1⟩
      case measure=>exact aG
     | false=>
      have hd:(D.s q1).rep wr (lu (λ_=>False) wr (.slice bq on b6)) [.string q1]:=by simp only[D.rep]
      have cw:=ae hd;clear hd;go_wp2_with(at_builtin;refine bP kq rfl (.tmp 225) (.tmp 239) rfl aW.2.2.1 cw.o rfl rfl rfl ad ad ag ?_;intro aV f0 bX bF az al ci;have b4:=ah bF az;clear bF az al ci);have br:∀b,(Value.slice bq on b6).ownBlock=some b->cL.heap.size<=b:=λb O=>(aW.2.2.1.lt O).1;have a3:Ext cL bX:=aW.2.1.eN (b4.2.below ag λk ap h=>by have:=br k h;omega);have bx:=ae a3;clear br a3;go_roundw
      case rel=>exact⟨j+1,aV,on+1,f0,rfl,by go_num,ad,bx.o,by rw[aP];simpa[KK,<-List.append_assoc] using b4.1⟩
      case measure=>exact aG
    .obtain rfl:j=cg:=ad;have bZ:f.params.take j=f.params:=KL (aC aa.o);have r:=aW.1.ai Ll.drew;have R:=aW.2.2.2.ak (ab:=wr.drew) rfl;have W:=aW.2.2.1.ai Ll.drew;rw[bZ] at W;have y:=r.blk;have aS:=r.own;have bK:(G.map (·.1)++cr f.params).length+L<=60:=by
      have cF:=bM.o;rw[bZ] at cF;have aY:=r.kA;rw[KF];omega
     have Z:=r.lq.free (f:=f) (KG bU.1);have aB:=r.kA;have cw:=bL r W bK Z;clear r W bK Z bZ;go_upto_region 41 with(fail);clear e0 e1 e2 a0 ai af;refine kK (RW (S.heap.size+1) (.pointer (some ⟨S.heap.size+1,0,none⟩)) (.slice GA gn gc) (.slice MA mn mc) (.slice (some ⟨fg,0,none⟩) fn fc) (.bool ar)) [(0,3),(1,3),(2,3),(3,3),(4,0),(5,3),(6,3),(7,3),(8,3),(9,3),(10,3),(11,0),(12,3),(13,3),(14,0),(15,3),(16,1),(17,3),(18,3),(19,2)] (by kernel_rfl) (by kernel_rfl) (λw=>RW.refl w) (λ_ _ _ h k=>h.trans k) (λ_ _ d _ _ h=>by cases d<;>exact h) ?_
     iterate 4 refine pf ?_
     refine bO (v:=?_) rfl (by rfl) (λV hV=>?_) ?_;rotate_left
     .obtain⟨b3,b7⟩:=hV.wb _ y;obtain⟨hVc,hVf,bK⟩:=b7.two
      (go_simp<;>with_reducible rfl)
     try simp only[PU]
     iterate 6 refine pf ?_
     refine bO (v:=?_) rfl (by rfl) (λV hV=>?_) ?_;rotate_left
     .obtain⟨b3,b7⟩:=hV.wb _ y;obtain⟨hVc,hVf,bK⟩:=b7.two
      (go_simp<;>with_reducible rfl)
     try simp only[PU]
     iterate 2 refine pf ?_
     refine bO (v:=?_) rfl (by rfl) (λV hV=>?_) ?_;rotate_left
     .obtain⟨e0,e1,e2⟩:=R.ak (hV.fr.block fg aS.2 ad)
      (go_simp<;>with_reducible rfl)
     try simp only[PU]
     refine pf ?_;refine aI rfl (λK hK=>?_);go_simp;refine(Eu ⟨S.heap.size+1,S.heap.size+1+1,A,n,c,l,GA,gn,gc,MA,mn,mc,some ⟨fg,0,none⟩,fn,fc,M,F,ar⟩ L (G.map (·.1)++cr f.params) (bh ⟨G,M,F⟩++f.params.map (·.1)) bq on b6 f.name f.params QA j qc (.slice fu bn bc) wr.drew cw.1.wr (cw.2.1.sl (λb _ h=>h.elim) (λb O aR=>⟨O,λhm=>by rcases hm with hm|hm<;>(simp only at hm;omega)⟩)) cw.2.2.1 (λk ap=>cw.2.2.2 k ad) ((bU.2.1.ak λb O=>(aW.2.1.trans Ll.drew).block b O.2 (λh=>h)).mono λb O=>⟨by have:=O.2;have:=ag;show b<wr.heap.size;omega,λhm=>by have:=O.1;rcases hm with hm|hm<;>(simp only at hm;omega)⟩) bs).mono ?_;rintro e aT ⟨ls,a6,cm,cf,cd,rfl,ck,ci,bN,aK,P⟩;have o:¬(fg=S.heap.size+1\/fg=S.heap.size+1+1):=ad;have aq:=o;obtain⟨cur,s⟩:=cw.1.fs.IZ;have be:=(s.on P o).frozen;have f2:=(s.on P o).lt;obtain⟨e0,e1,e2⟩:=R.ak (P.block fg aS.2 o);have bo:=ae (cw.1.body bU.1 aK P ck ci bN);refine dz hK (⟨P,λ_ _=>⟨a6,aK.blk⟩⟩) ?_;clear hK K;clear ck ci bN aK P s o aq
     iterate 2 refine pf ?_
     exact eP
  .have gM:¬(i:Int)<(fn:Int):=ad;have T:i=fn:=ad;have bv:=ae T;clear T;have ds:=cn.res;obtain⟨bl,aA,aO⟩:=ds.two;clear ds;go_wp2_with(fail);generalize ct:World.setCell _ _ _=Y;have aZ:=cn.o;rw[bv.o] at aZ;obtain⟨bE,bG,bH⟩:=dU (M:=λ_=>False) [.slice GA gn gc,.slice MA mn mc,.slice (some ⟨fg,0,none⟩) fn fc] (by rfl) aZ.res (w:=S) aZ.ext (KD _) ct;have bB:=ae (aZ.Jr bH);clear bl aA aO ct aZ bH a0 ai af;obtain⟨bl,aA,aO⟩:=bE.two;refine Lk (v:=.agg #[.slice GA gn gc,.slice MA mn mc,.slice (some ⟨fg,0,none⟩) fn fc]) (by simp[results,Tryz.results21,go_sem,bl]) rfl ?_;exact bB.o
namespace Bm
theorem z6(h:p:=by
 refine(show Calls prog 114 #[.pointer (some ⟨g,0,none⟩),.string ⟨#[91]⟩] X _ from dx [91] g A n c T (k+1) deep X aQ.1 false bU.2.2 (λh=>by cases h)).mono ?_;rintro e aT ⟨rfl,aZ,hF⟩;have bs:=aQ.2.2.1.on hF ad;have cE:=aQ.2.2.2.on hF ad;have bJ:=aD (show cj aT g A n c T (k+1) deep from by simpa using aZ) (aQ.2.1.trans hF) bs;clear aZ hF aQ;obtain⟨d0,aL,aM⟩:=cE.two;obtain⟨bl,aA,aO⟩:=bs.two;clear cE bs;go_wp2_with(fail);generalize ct:World.setCell _ _ _=Y;obtain⟨bE,bG,bH⟩:=dU (M:=λb=>b=g) (w:=w) [.string (strOf t.text),.slice none 0 0] (by rfl) bJ.2.2 bJ.2.1 (KD _) ct;have bB:=ah (bJ.1.on bH λb O=>ad) bG;clear ct bG bH bl aA aO;obtain⟨bl,aA,aO⟩:=bE.two;refine Lk (v:=.agg #[.string (strOf t.text),.slice none 0 0]) (by simp[results,Tryz.results156,go_sem,bl]) rfl ?_;exact⟨rfl,bB.1,bB.2⟩
 ):p:=h
end Bm
open Bm in
theorem D5(g:Nat)(A:Lp)(n c:Nat)(T:List Tok)(k deep:Nat)(w:World)(t:Tok)(h:cj w g A n c T k deep)(ht:T[k]?=some t)(bv:t.kind=1)(bQ:cz [91] T (k+1)=false)(ap:k+1<n) :
  Calls prog 156 #[.pointer (some ⟨g,0,none⟩)] w λe ab=>e=.returned (.agg #[.string (strOf t.text),.slice none 0 0])/\cj ab g A n c T (k+1) deep/\Fr (λb=>b=g) w ab:=by
 have H:=ae h;have bU:=aD ht bv bQ;have ck:=h.blk.lt;clear h bv ht bQ;go_enter func156,ntmps156;go_upto_region 1 with(fail);generalize ba:World.alloc _ _=W;have aw:=aX ba;have cA:=aK ba;have ag:=aD (H.ai aw) aw cA;clear ba aw cA;go_wp2_with(fail);refine(oO g A n c T k deep W t ag.1 bU.1 bU.2.1 ap).mono ?_;exact z5
theorem Fm(g:Nat)(A:Lp)(n c:Nat)(T:List Tok)(k deep:Nat)(w:World)(h:cj w g A n c T k deep)(ac:cz [40] T k=true)(au:cz [41] T (k+1)=true)(ap:k+2<n) :
  Calls prog 155 #[.pointer (some ⟨g,0,none⟩)] w λe ab=>e=.returned (.slice none 0 0)/\cj ab g A n c T (k+2) deep/\Fr (λb=>b=g) w ab:=by
 have H:=ae h;have bU:=ah ac au;clear h ac au;go_enter func155,ntmps155;exact Gb
theorem yx(g:Nat)(A:Lp)(n c:Nat)(T:List Tok)(k deep:Nat)(w:World)(h:cj w g A n c T k deep)(ac:cz [40] T k=true)(au:cz [41] T (k+1)=true)(ap:k+2<n) :
  Calls prog 118 #[.pointer (some ⟨g,0,none⟩)] w λe ab=>e=.returned (.slice none 0 0)/\cj ab g A n c T (k+2) deep/\Fr (λb=>b=g) w ab:=by
 have H:=ae h;have bU:=ah ac au;clear h ac au;go_enter func118,ntmps118;exact Gb
namespace Bn
theorem z6(h:p:=by
 refine(show Calls prog 114 #[.pointer (some ⟨g,0,none⟩),.string ⟨#[91]⟩] X _ from dx [91] g A n c T (k+1) deep X aQ.1 false bU.2.2.1 (λh=>by cases h)).mono ?_;rintro e aT ⟨rfl,aZ,hF⟩;have bJ:=bL (show cj aT g A n c T (k+1) deep from by simpa using aZ) (aQ.2.1.trans hF) (aQ.2.2.1.on hF ad) (aQ.2.2.2.on hF ad);clear aZ hF aQ;go_wp2_with(fail);refine(show Calls prog 141 #[.pointer (some ⟨g,0,none⟩),.string ⟨#[59]⟩] aT _ from mL [59] g A n c T (k+1) deep aT bJ.1 bU.2.2.2 ad).mono ?_;rintro e bX ⟨rfl,aZ,hF⟩;have bs:=bJ.2.2.1.on hF ad;have cE:=bJ.2.2.2.on hF ad;have bW:=aD aZ (bJ.2.1.trans hF) bs;clear aZ hF bJ;obtain⟨d0,aL,aM⟩:=cE.two;obtain⟨bl,aA,aO⟩:=bs.two;clear cE bs;go_wp2_with(fail);generalize ct:World.setCell _ _ _=Y;obtain⟨bE,bG,bH⟩:=dU (M:=λb=>b=g) (w:=w) [.string (strOf t.text),.bool false,.int .i64 0] (by rfl) bW.2.2 bW.2.1 (KD _) ct;have bB:=ah (bW.1.on bH λb O=>ad) bG;clear ct bG bH bl aA aO;obtain⟨bl,aA,aO⟩:=bE.two;refine Lk (v:=.agg #[.string (strOf t.text),.bool false,.int .i64 0]) (by simp[results,Tryz.results116,go_sem,bl]) rfl ?_;exact⟨rfl,bB.1,bB.2⟩
 ):p:=h
end Bn
open Bn in
theorem D4(g:Nat)(A:Lp)(n c:Nat)(T:List Tok)(k deep:Nat)(w:World)(t:Tok)(h:cj w g A n c T k deep)(ht:T[k]?=some t)(bv:t.kind=1)(bQ:cz [91] T (k+1)=false)(au:cz [59] T (k+1)=true)(ap:k+2<n) :
  Calls prog 116 #[.pointer (some ⟨g,0,none⟩),.bool false] w λe ab=>e=.returned (.agg #[.string (strOf t.text),.bool false,.int .i64 0])/\cj ab g A n c T (k+2) deep/\Fr (λb=>b=g) w ab:=by
 have H:=ae h;have bU:=bL ht bv bQ au;have ck:=h.blk.lt;clear h bv ht bQ au;go_enter func116,ntmps116;go_upto_region 1 with(fail);generalize ba:World.alloc _ _=W;have aw:=aX ba;have cA:=aK ba;have ag:=aD (H.ai aw) aw cA;clear ba aw cA;go_wp2_with(fail);refine(oO g A n c T k deep W t ag.1 bU.1 bU.2.1 ad).mono ?_;exact z5
theorem gu{a b:List UInt8}(h:cz a T k=true)(hn:strOf a≠strOf b):cz b T k=false:=by
 unfold cz at h ⊢
 cases hT:T[k]? with
 | none=>rfl
 | some t=>
  rw[hT] at h;simp only[KP,Li] at h;simp only[Bool.and_eq_false_iff,decide_eq_false_iff_not];exact .inr λO=>hn (h.2.symm.trans O)
def mS(k:Int)(n m:ByteArray):List Value:=[.int .i64 k,.string n,.int .i64 0,.int .i64 0,.string ⟨#[]⟩,.slice none 0 0,.string m,.slice none 0 0,.slice none 0 0,.slice none 0 0,.slice none 0 0]
theorem Hx(n:ByteArray):(bg (.call true n [])).rep w P (mS 4 n ⟨#[]⟩):=eC l5 kF (Sl.bN _) (KD _) (Sl.bN _) (KD _) (Sl.bN _) (KD _)
theorem uC(u:Bool)(n:ByteArray):(bg (.lock u ⟨n,none⟩)).rep w P (mS (if u then 6 else 5) ⟨#[]⟩ n):=
 eC l5 (jv.2 ⟨none,0,0,rfl,KD _,Sl.bN _⟩) (Sl.bN _) (KD _) (Sl.bN _) (KD _) (Sl.bN _) (KD _)
structure yZ(w ab:World)(g:Nat)(A:Lp)(n c:Nat)(T:List Tok)(k deep:Nat)(cs:List Value):Prop where
 ps:cj ab g A n c T k deep
 fr:Fr (λb=>b=g) w ab
 r:aq ab w.heap.size 174 #[.int .i64 0,.string ⟨#[]⟩,.int .i64 0,.int .i64 0,.string ⟨#[]⟩,.slice none 0 0,.string ⟨#[]⟩,.slice none 0 0,.slice none 0 0,.slice none 0 0,.slice none 0 0]
 s:aq ab (w.heap.size+1) 174 cs.toArray
theorem yZ.on{w ab aT:World}{g:Nat}{A:Lp}{n c:Nat}{T:List Tok}{k F deep:Nat}{cs:List Value}(h:yZ w ab g A n c T k deep cs)(a2:g<w.heap.size)(hp:cj aT g A n c T F deep)(J:Fr (λb=>b=g) ab aT):yZ w aT g A n c T F deep cs:=
 ⟨hp,h.fr.trans J,h.r.on J ad,h.s.on J ad⟩
theorem yZ.set{ab aT:World}{g:Nat}{A:Lp}{n c:Nat}{deep:Nat}{cs f:List Value}(h:yZ w ab g A n c T k deep cs)(a2:g<w.heap.size)(J:Fr (λb=>b=w.heap.size+1) ab aT)(hs:aq aT (w.heap.size+1) 174 f.toArray):yZ w aT g A n c T k deep f:=
 ⟨h.ps.on J λb O=>ad,h.fr.eN (J.below h.fr.size λk ap hm=>ad),h.r.on J ad,hs⟩
namespace Bs
theorem ve(h:p:=by
 refine(show Calls prog 114 #[.pointer (some ⟨g,0,none⟩),.string ⟨#[103,111]⟩] aS _ from dx [103,111] g A n c T k deep aS H1.ps true (by first|exact bU.1|exact gu bU.1 (by decide)) (λh=>by first|omega|cases h)).mono ?_;rintro e aT ⟨rfl,aZ,hF⟩;have bJ:=ae (H1.on ck (show cj aT g A n c T (k+1) deep from by simpa using aZ) hF);clear aZ hF;clear H1;obtain⟨d0,aL,aM⟩:=bJ.s.two;clear d0 aL aM;go_wp2_with(fail);refine(oO g A n c T (k+1) deep aT t bJ.ps bU.2.1 bU.2.2.1 ad).mono ?_;rintro e j ⟨rfl,aZ,hF⟩;have HA:=ae (bJ.on ck aZ hF);clear aZ hF bJ;obtain⟨d0,aL,aM⟩:=HA.s.two;simp only[mS] at d0;go_upto_region 15 with(fail);generalize hX:World.setCell _ _ _=X;have aQ:Lr (yZ w X g A n c T (k+1+1) deep (mS 4 (strOf t.text) ⟨#[]⟩)):=by
  refine ae (HA.set ck (by rw[<-hX];exact((Fr.refl (λb=>b=w.heap.size+1) j).setCell (.inl rfl) _).setCell (.inl rfl) _) ?_);rw[<-hX];exact(HA.s.aM 0 (.int .i64 4)).aM 1 (.string (strOf t.text))
 clear hX d0 aL aM HA;go_wp2_with(fail);refine(Fm g A n c T (k+1+1) deep X aQ.ps bU.2.2.2.1 bU.2.2.2.2.1 ad).mono ?_;rintro e wb ⟨rfl,aZ,hF⟩;have b1:=ae (aQ.on ck aZ hF);clear aZ hF aQ;obtain⟨d0,aL,aM⟩:=b1.s.two;simp only[mS] at d0;go_upto_region 16 with(fail);generalize hX:World.setCell _ _ _=Y;have bB:Lr (yZ w Y g A n c T (k+1+1+2) deep (mS 4 (strOf t.text) ⟨#[]⟩)):=by
  refine ae (b1.set ck (by rw[<-hX];exact(Fr.refl (λb=>b=w.heap.size+1) wb).setCell (.inl rfl) _) ?_);rw[<-hX];exact b1.s.aM 8 (.slice none 0 0)
 clear hX d0 aL aM b1;go_wp2_with(fail);refine(show Calls prog 141 #[.pointer (some ⟨g,0,none⟩),.string ⟨#[59]⟩] Y _ from mL [59] g A n c T (k+1+1+2) deep Y bB.ps bU.2.2.2.2.2 ad).mono ?_;rintro e cA ⟨rfl,aZ,hF⟩;have bf:=ae (bB.on ck aZ hF);clear aZ hF bB;obtain⟨d0,aL,aM⟩:=bf.s.two;obtain⟨bl,aA,aO⟩:=bf.r.two;simp only[mS] at d0;go_wp2_with(fail);generalize hX:World.setCell _ _ _=V;obtain⟨b7,bm,i⟩:=dU (M:=λb=>b=g) (w:=w) (mS 4 (strOf t.text) ⟨#[]⟩) (by rfl) bf.r bf.fr (KD _) hX;have cc:=ah (bf.ps.on i λb O=>ad) bm;clear hX bm i bl aA aO d0 aL aM;obtain⟨bl,aA,aO⟩:=b7.two;simp only[mS] at bl;refine Lk (v:=.agg (mS 4 (strOf t.text) ⟨#[]⟩).toArray) (by simp[results,Tryz.results142,go_sem,bl,mS]) rfl ?_;exact⟨rfl,cc.1,cc.2⟩
 ):p:=h
end Bs
open Bs in
theorem IB(g:Nat)(A:Lp)(n c:Nat)(T:List Tok)(k deep:Nat)(w:World)(t:Tok)(h:cj w g A n c T k deep)(ac:cz [103,111] T k=true)(ht:T[k+1]?=some t)(bv:t.kind=1)(au:cz [40] T (k+2)=true)(aU:cz [41] T (k+3)=true)(bE:cz [59] T (k+4)=true)(ap:k+5<n) :
  Calls prog 142 #[.pointer (some ⟨g,0,none⟩)] w λe ab=>e=.returned (.agg (mS 4 (strOf t.text) ⟨#[]⟩).toArray)/\cj ab g A n c T (k+5) deep/\Fr (λb=>b=g) w ab:=by
 have H:=ae h;have bU:=cS ac ht bv au aU bE;have ck:=h.blk.lt;clear h ac ht bv au aU bE;exact vd
namespace Bt
theorem zX(h:p:=by
 obtain⟨b7,bm,i⟩:=dU (M:=λb=>b=g) (w:=w) (mS 5 ⟨#[]⟩ (strOf t.text)) (by rfl) bf.r bf.fr (KD _) hX;have cc:=ah (bf.ps.on i λb O=>ad) bm;clear hX bm i bl aA aO d0 aL aM;obtain⟨bl,aA,aO⟩:=b7.two;simp only[mS] at bl;refine Lk (v:=.agg (mS 5 ⟨#[]⟩ (strOf t.text)).toArray) (by simp[results,Tryz.results142,go_sem,bl,mS]) rfl ?_;exact⟨rfl,cc.1,cc.2⟩
 ):p:=h
theorem z4(h:p:=by
 refine(show Calls prog 114 #[.pointer (some ⟨g,0,none⟩),.string ⟨#[108,111,99,107]⟩] aT _ from dx [108,111,99,107] g A n c T k deep aT bJ.ps true (by first|exact bU.1|exact gu bU.1 (by decide)) (λh=>by first|omega|cases h)).mono ?_;rintro e bX ⟨rfl,aZ,hF⟩;have bW:=ae (bJ.on ck (show cj bX g A n c T (k+1) deep from by simpa using aZ) hF);clear aZ hF;clear bJ;go_wp2_with(fail);refine(D5 g A n c T (k+1) deep bX t bW.ps bU.2.1 bU.2.2.1 bU.2.2.2.1 ad).mono ?_;rintro e j ⟨rfl,aZ,hF⟩;have HA:=ae (bW.on ck aZ hF);clear aZ hF bW;obtain⟨d0,aL,aM⟩:=HA.s.two;simp only[mS] at d0;go_upto_region 19 with(fail);generalize hX:World.setCell _ _ _=X;have aQ:Lr (yZ w X g A n c T (k+1+1) deep (mS 5 ⟨#[]⟩ (strOf t.text))):=by
  refine ae (HA.set ck (by rw[<-hX];exact(((Fr.refl (λb=>b=w.heap.size+1) j).setCell (.inl rfl) _).setCell (.inl rfl) _).setCell (.inl rfl) _) ?_);rw[<-hX];exact((HA.s.aM 0 (.int .i64 5)).aM 6 (.string (strOf t.text))).aM 7 (.slice none 0 0)
 exact zW
 ):p:=h
theorem ve(h:p:=by
 exact z3
 ):p:=h
end Bt
open Bt in
theorem Fo(g:Nat)(A:Lp)(n c:Nat)(T:List Tok)(k deep:Nat)(w:World)(t:Tok)(h:cj w g A n c T k deep)(ac:cz [108,111,99,107] T k=true)(ht:T[k+1]?=some t)(bv:t.kind=1)(bQ:cz [91] T (k+2)=false)(au:cz [59] T (k+2)=true)(ap:k+3<n) :
  Calls prog 142 #[.pointer (some ⟨g,0,none⟩)] w λe ab=>e=.returned (.agg (mS 5 ⟨#[]⟩ (strOf t.text)).toArray)/\cj ab g A n c T (k+3) deep/\Fr (λb=>b=g) w ab:=by
 have H:=ae h;have bU:=cK ac ht bv bQ au;have ck:=h.blk.lt;clear h ac ht bv bQ au;exact vd
namespace Bu
theorem zX(h:p:=by
 obtain⟨b7,bm,i⟩:=dU (M:=λb=>b=g) (w:=w) (mS 6 ⟨#[]⟩ (strOf t.text)) (by rfl) bf.r bf.fr (KD _) hX;have cc:=ah (bf.ps.on i λb O=>ad) bm;clear hX bm i bl aA aO d0 aL aM;obtain⟨bl,aA,aO⟩:=b7.two;simp only[mS] at bl;refine Lk (v:=.agg (mS 6 ⟨#[]⟩ (strOf t.text)).toArray) (by simp[results,Tryz.results142,go_sem,bl,mS]) rfl ?_;exact⟨rfl,cc.1,cc.2⟩
 ):p:=h
theorem z4(h:p:=by
 refine(show Calls prog 114 #[.pointer (some ⟨g,0,none⟩),.string ⟨#[108,111,99,107]⟩] aT _ from dx [108,111,99,107] g A n c T k deep aT bJ.ps false (by first|exact bU.1|exact gu bU.1 (by decide)) (λh=>by first|omega|cases h)).mono ?_;rintro e bX ⟨rfl,aZ,hF⟩;have bW:=ae (bJ.on ck (show cj bX g A n c T (k) deep from by simpa using aZ) hF);clear aZ hF;clear bJ;go_wp2_with(fail);refine(show Calls prog 114 #[.pointer (some ⟨g,0,none⟩),.string ⟨#[117,110,108,111,99,107]⟩] bX _ from dx [117,110,108,111,99,107] g A n c T k deep bX bW.ps true (by first|exact bU.1|exact gu bU.1 (by decide)) (λh=>by first|omega|cases h)).mono ?_;rintro e cL ⟨rfl,aZ,hF⟩;have bY:=ae (bW.on ck (show cj cL g A n c T (k+1) deep from by simpa using aZ) hF);clear aZ hF;clear bW;go_wp2_with(fail);refine(D5 g A n c T (k+1) deep cL t bY.ps bU.2.1 bU.2.2.1 bU.2.2.2.1 ad).mono ?_;rintro e j ⟨rfl,aZ,hF⟩;have HA:=ae (bY.on ck aZ hF);clear aZ hF bY;obtain⟨d0,aL,aM⟩:=HA.s.two;simp only[mS] at d0;go_upto_region 22 with(fail);generalize hX:World.setCell _ _ _=X;have aQ:Lr (yZ w X g A n c T (k+1+1) deep (mS 6 ⟨#[]⟩ (strOf t.text))):=by
  refine ae (HA.set ck (by rw[<-hX];exact(((Fr.refl (λb=>b=w.heap.size+1) j).setCell (.inl rfl) _).setCell (.inl rfl) _).setCell (.inl rfl) _) ?_);rw[<-hX];exact((HA.s.aM 0 (.int .i64 6)).aM 6 (.string (strOf t.text))).aM 7 (.slice none 0 0)
 exact zW
 ):p:=h
theorem ve(h:p:=by
 exact z3
 ):p:=h
end Bu
open Bu in
theorem yy(g:Nat)(A:Lp)(n c:Nat)(T:List Tok)(k deep:Nat)(w:World)(t:Tok)(h:cj w g A n c T k deep)(ac:cz [117,110,108,111,99,107] T k=true)(ht:T[k+1]?=some t)(bv:t.kind=1)(bQ:cz [91] T (k+2)=false)(au:cz [59] T (k+2)=true)(ap:k+3<n) :
  Calls prog 142 #[.pointer (some ⟨g,0,none⟩)] w λe ab=>e=.returned (.agg (mS 6 ⟨#[]⟩ (strOf t.text)).toArray)/\cj ab g A n c T (k+3) deep/\Fr (λb=>b=g) w ab:=by
 have H:=ae h;have bU:=cK ac ht bv bQ au;have ck:=h.blk.lt;clear h ac ht bv bQ au;exact vd
def s0(T:List Tok)(k:Nat):Option (aA×Nat):=match T[k+1]? with
 | none=>none
 | some t=>
  if t.kind=1 then
   if cz [103,111] T k && cz [40] T (k+2) && cz [41] T (k+3) && cz [59] T (k+4) && decide (k+5<T.length) then some (.call true (strOf t.text) [],k+5)
   else if cz [108,111,99,107] T k && !cz [91] T (k+2) && cz [59] T (k+2) && decide (k+3<T.length) then some (.lock false ⟨strOf t.text,none⟩,k+3)
   else if cz [117,110,108,111,99,107] T k && !cz [91] T (k+2) && cz [59] T (k+2) && decide (k+3<T.length) then some (.lock true ⟨strOf t.text,none⟩,k+3)
   else none
  else none
theorem xO{st:aA}(h:s0 T k=some (st,F)):k+3<=F:=by
 unfold s0 at h;split at h
 .cases h
 .split at h
  .split at h
   .injection h with h;injection h with _ h;omega
   .split at h
    .injection h with h;injection h with _ h;omega
    .split at h
     .injection h with h;injection h with _ h;omega
     .cases h
  .cases h
theorem Fp(g:Nat)(A:Lp)(n c:Nat)(T:List Tok)(k deep:Nat)(w:World)(st:aA)(F:Nat)(h:cj w g A n c T k deep)(hs:s0 T k=some (st,F)) :
  Calls prog 142 #[.pointer (some ⟨g,0,none⟩)] w λe ab=>∃(q:Int) (a b:ByteArray),e=.returned (.agg #[.int .i64 q,.string a,.int .i64 0,.int .i64 0,.string ⟨#[]⟩,.slice none 0 0,.string b,.slice none 0 0,.slice none 0 0,.slice none 0 0,.slice none 0 0])/\(∀w P,(bg st).rep w P (mS q a b))/\cj ab g A n c T F deep/\Fr (λb=>b=g) w ab:=by
 have hl:=h.s5.1;unfold s0 at hs;split at hs
 .cases hs
 .rename_i t ht;split at hs
  .rename_i bv;split at hs
   .rename_i hc;simp only[KP,Li] at hc;injection hs with hs;injection hs with ac au;subst ac au;refine(IB g A n c T k deep w t h hc.1.1.1.1 ht bv hc.1.1.1.2 hc.1.1.2 hc.1.2 ad).mono ?_;rintro e ab ⟨rfl,aZ,hF⟩;exact⟨4,_,_,rfl,λw P=>Hx _,aZ,hF⟩
   .split at hs
    .rename_i hc;simp only[KP,Li,Bool.not_eq_true'] at hc;injection hs with hs;injection hs with ac au;subst ac au;refine(Fo g A n c T k deep w t h hc.1.1.1 ht bv hc.1.1.2 hc.1.2 ad).mono ?_;rintro e ab ⟨rfl,aZ,hF⟩;exact⟨5,_,_,rfl,λw P=>uC false _,aZ,hF⟩
    .split at hs
     .rename_i hc;simp only[KP,Li,Bool.not_eq_true'] at hc;injection hs with hs;injection hs with ac au;subst ac au;refine(yy g A n c T k deep w t h hc.1.1.1 ht bv hc.1.1.2 hc.1.2 ad).mono ?_;rintro e ab ⟨rfl,aZ,hF⟩;exact⟨6,_,_,rfl,λw P=>uC true _,aZ,hF⟩
     .cases hs
  .cases hs
def jG(T:List Tok):Nat->Nat->Option (List aA×Nat)
 | 0,_=>none
 | f+1,k=>if cz [125] T k then (if k+1<T.length then some ([],k+1) else none) else (s0 T k).bind λp=>(jG T f p.2).map λq=>(p.1::q.1,q.2)
theorem wE{f:Nat}{ls:List aA}(h:jG T f k=some (ls,F)):(cz [125] T k=true/\k+1<T.length/\ls=[]/\F=k+1)\/(cz [125] T k=false/\∃(st:aA) (bO f2:Nat) (t:List aA),s0 T k=some (st,bO)/\jG T f2 bO=some (t,F)/\ls=st::t):=by
 cases f with
 | zero=>cases h
 | succ f=>
  simp only[jG] at h;split at h
  .rename_i ac;split at h
   .rename_i au;injection h with h;injection h with aU bE;exact .inl ⟨ac,au,aU.symm,bE.symm⟩
   .cases h
  .rename_i ac
   cases hs:s0 T k with
   | none=>rw[hs] at h;cases h
   | some p=>
    rw[hs] at h;obtain⟨st,bO⟩:=p;simp only[Option.bind_some] at h
    cases a5:jG T f bO with
    | none=>rw[a5] at h;cases h
    | some q=>
     rw[a5] at h;simp only[Option.map_some] at h;injection h with h;injection h with aU bE;subst bE;exact .inr ⟨by simpa using ac,st,bO,f,q.1,rfl,a5,aU.symm⟩
def Ik:Value->Nat
 | .slice _ n _=>n
 | _=>0
theorem D3(g:Nat)(A:Lp)(n c:Nat)(T:List Tok)(k deep:Nat)(w:World)(f:Nat)(ls:List aA)(F:Nat)(h:cj w g A n c T k deep)(hd:deep<24)(ac:cz [123] T k=true)(ap:k+1<n)(hs:jG T f (k+1)=some (ls,F)) :
  Calls prog 119 #[.pointer (some ⟨g,0,none⟩)] w λe ab=>∃(bq:Lp) (on b6:Nat),e=.returned (.slice bq on b6)/\on<=b6/\Sl ab (fresh w ab) bq on (ls.map bg)/\cj ab g A n c T F deep/\Fr (λb=>b=g) w ab:=by
 have H:=ae h;have bU:=ah ac hs;have ck:=h.blk.lt;have L:=h.jy;have ay:((deep:Int) == 24)=false:=by simp;omega
 clear h ac hs;go_enter func119,ntmps119;go_wp2_with(fail);refine(show Calls prog 112 #[.pointer (some ⟨g,0,none⟩),.string ⟨#[123]⟩] w _ from ly [123] g A n c T k deep w H.o).mono ?_;rintro e aS ⟨rfl,aw⟩;rw[bU.1];have H1:=ah (H.ai aw) (aw.mono (M':=λb=>b=g) λ_ h=>h.elim);clear aw;obtain⟨a0,ai,af⟩:=H1.1.blk.two;go_wp2_with(fail);refine(show Calls prog 141 #[.pointer (some ⟨g,0,none⟩),.string ⟨#[123]⟩] aS _ from mL [123] g A n c T k deep aS H1.1 bU.1 ap).mono ?_;rintro e aT ⟨rfl,aZ,hF⟩;have bJ:=ah aZ (H1.2.trans hF);clear aZ hF a0 ai af H1;obtain⟨a0,ai,af⟩:=bJ.1.blk.two;go_upto_region 5 with(fail);generalize hX:World.setCell _ _ _=X;have J:=cJ hX;have aR:aq X g 197 #[.slice A n c,.int .i64 ((k+1:Nat):Int),.int .i64 0,.int .i64 0,.int .i64 0,.int .i64 ((deep+1:Nat):Int)]:=hX▸bJ.1.blk.aM 5 (.int .i64 ((deep:Int)+1));have aQ:=ah (show cj X g A n c T (k+1) (deep+1) from ⟨aR,bJ.1.s5.ez (J.below (aC bJ.1.blk.lt) λb O hm=>ad),ap,L⟩) (bJ.2.trans J);clear hX J aR a0 ai af bJ;go_wp2_with(fail);go_loopw [3] (λaU wr=>∃(bq:Lp) (on b6 j aG:Nat) (acc rest:List aA),aU=.slice bq on b6/\on<=j/\cj wr g A n c T j (deep+1)/\Fr (λb=>b=g) w wr/\Gr (λ_=>False) w.heap.size 174 11 wr bq on b6 (acc.map bg)/\jG T aG j=some (rest,F)/\acc++rest=ls) (λaU _=>4001 - Ik aU)
 case atStart=>exact⟨none,0,0,k+1,f,[],ls,rfl,ad,aQ.1,aQ.2,Gr.nil _ _ _ _ _,bU.2,rfl⟩
 case round=>
  obtain⟨bq,on,b6,j,aG,acc,rest,rfl,c2,aZ,hF,hG,cy,y⟩:=hrel;clear aQ;have G:=aZ.lt;have aW:=bL aZ hF hG y;obtain⟨a0,ai,af⟩:=aZ.blk.two;have m0:=hF.size;clear aZ hF hG y;rcases wE cy with⟨hc,dL,i,E⟩|⟨hc,st,bO,f2,t,cp,bN,cV⟩
  .have bQ:=bL hc dL i E;clear hc dL i E cy;go_wp2_with(fail);refine(show Calls prog 114 #[.pointer (some ⟨g,0,none⟩),.string ⟨#[125]⟩] wr _ from dx [125] g A n c T j (deep+1) wr aW.1 true bQ.1 (λ_=>by have:=bQ.2.1;have:=aW.1.s5.1;omega)).mono ?_;rintro e bX ⟨rfl,aZ,hF⟩;have bW:=ah (show cj bX g A n c T (j+1) (deep+1) from by simpa using aZ) hF;clear aZ hF a0 ai af;obtain⟨a0,ai,af⟩:=bW.1.blk.two;go_upto_region 9 with(fail);generalize hX:World.setCell _ _ _=X;have J:=cJ hX;have aR:aq X g 197 #[.slice A n c,.int .i64 ((j+1:Nat):Int),.int .i64 0,.int .i64 0,.int .i64 0,.int .i64 (deep:Int)]:=hX▸bW.1.blk.aM 5 (.int .i64 (deep:Int));have az:Fr (λb=>b=g) wr X:=bW.2.trans J;have aQ:=aD (show cj X g A n c T (j+1) deep from ⟨aR,bW.1.s5.ez (J.below (aC bW.1.blk.lt) λb O hm=>ad),bW.1.lt,L⟩) (aW.2.1.trans az) (aW.2.2.1.c8 az λb O _=>⟨λh=>h,ad⟩);clear hX J aR az a0 ai af bW;go_wp2_with(fail);go_ret;refine⟨bq,on,b6,rfl,aQ.2.2.cap.1,?_,by rw[bQ.2.2.2];exact aQ.1,aQ.2.1⟩;have cF:=aW.2.2.2;rw[bQ.2.2.1,Ld] at cF;rw[<-cF];exact aQ.2.2.sl (λb _ h=>h.elim) λb O hp=>⟨hp,O⟩
  .have bQ:=bL hc cp bN cV;have cN:=xO cp;clear hc cp bN cV cy;go_wp2_with(fail);refine(show Calls prog 114 #[.pointer (some ⟨g,0,none⟩),.string ⟨#[125]⟩] wr _ from dx [125] g A n c T j (deep+1) wr aW.1 false bQ.1 (λh=>by cases h)).mono ?_;rintro e bX ⟨rfl,aZ,hF⟩;have bW:=ah (show cj bX g A n c T j (deep+1) from by simpa using aZ) hF;clear aZ hF a0 ai af;go_wp2_with(fail);refine(Fp g A n c T j (deep+1) bX st bO bW.1 bQ.2.1).mono ?_;rintro e cL ⟨q,a,b,rfl,b5,aZ,hF⟩;have az:Fr (λb=>b=g) wr cL:=bW.2.trans hF;have m:=aW.2.2.1.c8 az λb O _=>⟨λh=>h,ad⟩
   have hd:=b5 cL (lu (λ_=>False) cL (.slice bq on b6));have b2:w.heap.size<=cL.heap.size:=by have:=az.size;omega
   have bY:=bL aZ (aW.2.1.trans az) m hd;clear aZ hF az m hd b5 bW;go_wp2_with(at_builtin;refine bP oy rfl (.tmp 34) (.tmp 37) rfl bY.2.2.1 bY.2.2.2 rfl rfl rfl ad ad b2 ?_;intro aV f0 c7 bF az al ci;have b4:=ah bF az;clear bF az al ci);have br:∀b,(Value.slice bq on b6).ownBlock=some b->w.heap.size<=b:=λb O=>(bY.2.2.1.lt O).1;have a3:Fr (λb=>b=g) w c7:=bY.2.1.eN (b4.2.below b2 λk ap h=>by have:=br k h;omega);have cQ:=aD (bY.1.on b4.2 λb O=>by have:=br b O;omega) a3 b4.1;clear br a3 b4 bY;go_roundw
   case rel=>exact⟨aV,on+1,f0,bO,f2,acc++[st],t,rfl,ad,cQ.1,cQ.2.1,by rw[KK];exact cQ.2.2,bQ.2.2.1,by have:=aW.2.2.2;rw[bQ.2.2.2] at this;rw[<-this];simp⟩
   case measure=>simp only[Ik];omega
end Go.Proofs.YtglbpimocmhojaaGreat

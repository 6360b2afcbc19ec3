/- Part 41 of the proof. No condition of its own. -/
import Derived.Test.YtkhnkojkplbioaaGreatQ40
namespace Go.Proofs.YtkhnkojkplbioaaGreat
open Go.RowKit Go.Proofs.Tryz
set_option maxRecDepth 1000000
set_option maxHeartbeats 25600000
set_option linter.unusedVariables false
variable{T:List Tok}{F k:Nat}{P:Nat->Prop}{p:Prop}{w:World}
namespace Dk
theorem dE(h:p:=by
 try simp only[LF]
 generalize hX:World.setCell _ _ _=X;have aQ:=ae (hX▸bq.o);clear hX bq e0 e1 e2 a5 f2 N y;go_wp2_with(fail);go_roundw
 case rel=>exact⟨i+1,dO,F.set i {f with body:=.eQ ls},by go_num,ad,aQ.o⟩
 case measure=>exact aH
 ):p:=h
end Dk
open Dk in
theorem J4(S:World)(gS:Value)(e6 bE:Act->World->Prop)(ac:∀a ab,Code.wp prog (nN 32) (Exit.then bE (bodyPost prog Tryz.f44 (kj S))) a ab->e6 a ab)(au:∀a ab,Code.wp prog (Hs 42) (bodyPost prog Tryz.f44 (kj S)) a ab->bE a ab) :
  Fz S gS (Exit.then bE (bodyPost prog Tryz.f44 (kj S))) e6:=by
 unfold Fz;intro u A n c l ar MA mn mc M GA gn gc G av aX FA fn fc F hs hu gJ gQ u8 gL eR bm bL ce bV bU u16 ck gs eS eV eW eX eY eZ e3 e5 e7 e8 e9 fb fd u32 fe ff fh fi fj fk fl fm fo fq fr fs ft fu fv fw fx fz fA fB fC fD fE fF fG fH fI fJ fK fL fM u64 fN fO fP fQ fR fS fT fU fV fW fX fY fZ f3 f4 f5 f6 f7 f8 f9 ga gb gd ge gf gg gh gi gj gk gl gm go gp gq H I am aF aL aM aN aV aW a7 bb be bg bo br bs bw bI bO bW b2 b5 b8 cc cd cf ch cj cp cr ct cx cA cB cC cD cF cG cH cL cM cP cQ cS cT cU cV cW cX cY cZ c4 c5 c6 c7 c8 c9 da db dc dd de df dg dh di dj dk dl dm dn dp dr ds du dw dx dy dz dA dB dC dD dF dG dH dI dJ dK dM dN dQ dS dU dV dW dX dZ d0 d1 d2 d3 d4 d5 d6 d7 d8 d9 ea eb ec ed ee ef eg eh ei ej ek el em en eo ep eq er es et eu ev ew ex ey ez eA eB eD eE eF eG eH eI eJ eK eL eM eN eO eP bA gv gw gx gy gz gA gB gC gD gE gF gG gH gI w aB a1;obtain⟨fg,rfl,aY⟩:=a1.J4 aB;have bj:=ae aY;clear a1 aY;conv=>arg 2;whnf
 conv at ac=>enter [a,w,1,2];whnf
 conv at au=>enter [a,w,1,2];whnf
 go_wp2_with(fail);go_loopw [16] (λcy wr=>∃(i L:Nat) (F:List aK),cy=.int .i64 i/\i<=fn/\oV S u A n c l ar MA mn mc M GA gn gc G av aX fg fn fc wr F i L) (λcy _=>fn - (intOf cy).toNat)
 case atStart=>exact⟨0,24,F,rfl,ad,bj.o⟩
 case round=>
  obtain⟨i,L,F,rfl,an,a1⟩:=hrel;obtain⟨cK,rfl⟩:∃cK,cK=wr:=⟨wr,rfl⟩
  clear bj;have cq:=ae a1;obtain⟨a0,aj,af⟩:=a1.blk.two;have bD:=a1.hD;have bG:=a1.own;clear a1;by_cases al:i<fn
  .have gN:(i:Int)<(fn:Int):=ad;have f1:(0:Int)<=(i:Int):=ad;obtain⟨f,QA,co,qc,fy,bn,bc,J,b0,dL,dR,E⟩:=cq.I7 al;have bZ:=aE J dR E;have t:f.params.length=co:=by have:=dR.1;simpa using this
   clear J dR E;have ah:=ae cq.len.2.2;have bp:Gr (λ_=>False) cK.heap.size 9 1 (cK.alloc (.cells #[] 9)) (some ⟨cK.heap.size,0,none⟩) 0 0 []:=Gr.lit (w:=cK) (n:=0) (l:=[]) rfl (by rfl) ad (by simp only[D.aQ]);have m:Ext cK (cK.alloc (.cells #[] 9)):=LW.alloc _;have ay:Src (cK.alloc (.cells #[] 9)) 1 av gn ((G.map (·.1)).map Value.string):=vr (cq.aj m).vs;have g:av=none->gn=0:=λh=>by subst h;exact Sl.none_ cq.vs
   have ak:cK.heap.size<=(cK.alloc (.cells #[] 9)).heap.size:=by simp
   have bd:=cq.ng;have bx:=cq.nf.2;go_upto_region 36 with(at_builtin;go_loud (refine q8 ky rfl (.tmp 194) (.tmp 195) rfl bp (nT (G.map (·.1))) (by rw[Lo,Lo];exact ah.o) ay g rfl rfl ad ad ak ?_);intro cE c3 b6 dv ao bz U;have bh:=ag dv ao;clear dv ao bz U);have a4:Ext cK b6:=m.eR (bh.2.below (by simp) λk ap h=>by
    simp[Value.ownBlock] at h;omega)
   have dv:=bh.1;simp only[LF,LN] at dv;have bP:=ag a4 dv;clear a4 dv bh bp m ay g ak a0 aj af
   try simp only[LF]
   go_wp2_with(fail);go_loopw [17,18] (λaT cO wr=>∃(j:Nat) (bM:L3) (on b4:Nat),aT=.slice bM on b4/\cO=.int .i64 j/\j<=co/\Ext cK wr/\Gr (λ_=>False) cK.heap.size 9 1 wr bM on b4 ((G.map (·.1)++cw (f.params.take j)).map D.s)) (λ_ cO _=>co - (intOf cO).toNat)
   case atStart=>exact⟨0,cE,gn,c3,rfl,rfl,ad,bP.1,by simpa[cw] using bP.2⟩
   case round=>
    obtain⟨j,bM,on,b4,rfl,rfl,bi,aw,hG⟩:=hrel;clear bP;have Q:on=(G.map (·.1)).length+(cw (f.params.take j)).length:=by have:=hG.len;simpa using this.symm
    have c2:on<=4:=by
     have cI:=tk (f.params.take j);have a2:=ah.o;rw[List.length_take] at cI;rw[Lo] at Q;omega
    have a3:=bJ (cq.aj aw) aw hG (bZ.2.2.al (aw.block fg bG.2 (λh=>h)));obtain⟨aa,bv⟩:=aJ t Q;have W:=aw.size;clear aw hG t Q;obtain⟨a0,aj,af⟩:=a3.1.blk.two;obtain⟨e0,e1,e2⟩:=a3.2.2.2;by_cases dt:j<co
    .have f0:(j:Int)<(co:Int):=ad;have fa:(0:Int)<=(j:Int):=ad;obtain⟨pb,gP,q,cs,bQ,eQ,hm,ba,a8,hc⟩:=Sl.g6 (z:=2) (bZ.2.1.al λb O=>a3.2.1.block b O.2 (λh=>h)) (λ_=>rfl) dt;obtain rfl:=tD.1 ba;subst bQ;have c0:=hc 0 _ rfl;have c1:=hc 1 _ rfl;simp only[Lu] at c0 c1;have cR:=ae hm;clear ba hc a8 hm eQ;obtain⟨q1,cN⟩:=q;simp only at c0 c1;have aq:=ry cR.o
     cases cN with
     | true=>
      go_wp2_with(fail);go_roundw
      case rel=>exact⟨j+1,bM,on,b4,rfl,by go_num,ad,a3.2.1,by rw[aq];simpa using a3.2.2.1⟩
      case measure=>exact aH
     | false=>
      have hd:(D.s q1).rep wr (lL (λ_=>False) wr (.slice bM on b4)) [.string q1]:=by simp only[D.rep]
      have cb:=ae hd;clear hd;go_wp2_with(at_builtin;refine bT ky rfl (.tmp 225) (.tmp 239) rfl a3.2.2.1 cb.o rfl rfl rfl ad ad W ?_;intro bf cm b6 bH az cl ca;have bY:=ag bH az;clear bH az cl ca);have bB:∀b,(Value.slice bM on b4).ownBlock=some b->cK.heap.size<=b:=λb O=>(a3.2.2.1.lt O).1;have aZ:Ext cK b6:=a3.2.1.eR (bY.2.below W λk ap h=>by have:=bB k h;omega);have a9:=ae aZ;clear bB aZ;go_roundw
      case rel=>exact⟨j+1,bf,on+1,cm,rfl,by go_num,ad,a9.o,by rw[aq];simpa[Lr,<-List.append_assoc] using bY.1⟩
      case measure=>exact aH
    .obtain rfl:j=co:=ad;have e4:f.params.take j=f.params:=Ls (aD aa.o);have r:=a3.1.aj LW.drew;have N:=a3.2.2.2.al (ab:=wr.drew) rfl;have R:=a3.2.2.1.aj LW.drew;rw[e4] at R;have y:=r.blk;have aS:=r.own;have b3:(G.map (·.1)++cw f.params).length+L<=60:=by
      have cI:=bv.o;rw[e4] at cI;have a2:=r.kJ;rw[Lm];omega
     have Z:=r.lJ.free (f:=f) (Ln bZ.1);have aP:=r.kJ;have cb:=bJ r R b3 Z;clear r R b3 Z e4;go_upto_region 41 with(fail);clear e0 e1 e2 a0 aj af;refine kU (RW (S.heap.size+1) (.pointer (some ⟨S.heap.size+1,0,none⟩)) (.slice GA gn gc) (.slice MA mn mc) (.slice (some ⟨fg,0,none⟩) fn fc) (.bool ar)) [(0,3),(1,3),(2,3),(3,3),(4,0),(5,3),(6,3),(7,3),(8,3),(9,3),(10,3),(11,0),(12,3),(13,3),(14,0),(15,3),(16,1),(17,3),(18,3),(19,2)] (by kernel_rfl) (by kernel_rfl) (λw=>RW.refl w) (λ_ _ _ h k=>h.trans k) (λ_ _ d _ _ h=>by cases d<;>exact h) ?_
     iterate 4 refine pf ?_
     refine bS (v:=?_) rfl (by rfl) (λV hV=>?_) ?_;rotate_left
     .obtain⟨bC,b7⟩:=hV.wb _ y;obtain⟨hVc,hVf,b3⟩:=b7.two
      (go_simp<;>with_reducible rfl)
     try simp only[PU]
     iterate 6 refine pf ?_
     refine bS (v:=?_) rfl (by rfl) (λV hV=>?_) ?_;rotate_left
     .obtain⟨bC,b7⟩:=hV.wb _ y;obtain⟨hVc,hVf,b3⟩:=b7.two
      (go_simp<;>with_reducible rfl)
     try simp only[PU]
     iterate 2 refine pf ?_
     refine bS (v:=?_) rfl (by rfl) (λV hV=>?_) ?_;rotate_left
     .obtain⟨e0,e1,e2⟩:=N.al (hV.fr.block fg aS.2 ad)
      (go_simp<;>with_reducible rfl)
     try simp only[PU]
     refine pf ?_;refine aG rfl (λK hK=>?_);go_simp;refine(Fk ⟨S.heap.size+1,S.heap.size+1+1,A,n,c,l,GA,gn,gc,MA,mn,mc,some ⟨fg,0,none⟩,fn,fc,M,F,ar⟩ L (G.map (·.1)++cw f.params) (bk ⟨G,M,F⟩++f.params.map (·.1)) bM on b4 f.name f.params QA j qc (.slice fy bn bc) wr.drew cb.1.wr (cb.2.1.sl (λb _ h=>h.elim) (λb O aR=>⟨O,λhm=>by rcases hm with hm|hm<;>(simp only at hm;omega)⟩)) cb.2.2.1 (λk ap=>cb.2.2.2 k ad) ((bZ.2.1.al λb O=>(a3.2.1.trans LW.drew).block b O.2 (λh=>h)).mono λb O=>⟨by have:=O.2;have:=W;show b<wr.heap.size;omega,λhm=>by have:=O.1;rcases hm with hm|hm<;>(simp only at hm;omega)⟩) b0).mono ?_;rintro e aU ⟨ls,dO,b1,bX,bF,rfl,ci,ca,bN,aI,P⟩;have o:¬(fg=S.heap.size+1\/fg=S.heap.size+1+1):=ad;have ai:=o;obtain⟨cur,s⟩:=cb.1.fs.JG;have a5:=(s.on P o).frozen;have f2:=(s.on P o).lt;obtain⟨e0,e1,e2⟩:=N.al (P.block fg aS.2 o);have bq:=ae (cb.1.body bZ.1 aI P ci ca bN);refine dq hK (⟨P,λ_ _=>⟨dO,aI.blk⟩⟩) ?_;clear hK K;clear ci ca bN aI P s o ai
     iterate 2 refine pf ?_
     exact eT
  .have gN:¬(i:Int)<(fn:Int):=ad;have T:i=fn:=ad;have a6:=ae T;clear T;have gr:=cq.res;obtain⟨bl,aA,aO⟩:=gr.two;clear gr;go_wp2_with(fail);generalize cu:World.setCell _ _ _=Y;have a1:=cq.o;rw[a6.o] at a1;obtain⟨bK,bt,bR⟩:=dY (M:=λ_=>False) [.slice GA gn gc,.slice MA mn mc,.slice (some ⟨fg,0,none⟩) fn fc] (by rfl) a1.res (w:=S) a1.ext (Lk _) cu;have bu:=ae (a1.J8 bR);clear bl aA aO cu a1 bR a0 aj af;obtain⟨bl,aA,aO⟩:=bK.two;refine LU (v:=.agg #[.slice GA gn gc,.slice MA mn mc,.slice (some ⟨fg,0,none⟩) fn fc]) (by simp[results,Tryz.results44,go_sem,bl]) rfl ?_;exact bu.o
namespace B7
theorem AQ(h:p:=by
 refine(show Calls prog 121 #[.pointer (some ⟨g,0,none⟩),.string ⟨#[91]⟩] X _ from dB [91] g A n c T (k+1) deep X aQ.1 false bZ.2.2 (λh=>by cases h)).mono ?_;rintro e aU ⟨rfl,a1,hF⟩;have bC:=aQ.2.2.1.on hF ad;have cG:=aQ.2.2.2.on hF ad;have bc:=aE (show ck aU g A n c T (k+1) deep from by simpa using a1) (aQ.2.1.trans hF) bC;clear a1 hF aQ;obtain⟨d0,aL,aM⟩:=cG.two;obtain⟨bl,aA,aO⟩:=bC.two;clear cG bC;go_wp2_with(fail);generalize cu:World.setCell _ _ _=Y;obtain⟨bK,bt,bR⟩:=dY (M:=λb=>b=g) (w:=w) [.string (strOf t.text),.slice none 0 0] (by rfl) bc.2.2 bc.2.1 (Lk _) cu;have bu:=ag (bc.1.on bR λb O=>ad) bt;clear cu bt bR bl aA aO;obtain⟨bl,aA,aO⟩:=bK.two;refine LU (v:=.agg #[.string (strOf t.text),.slice none 0 0]) (by simp[results,Tryz.results166,go_sem,bl]) rfl ?_;exact⟨rfl,bu.1,bu.2⟩
 ):p:=h
end B7
open B7 in
theorem EU(g:Nat)(A:L3)(n c:Nat)(T:List Tok)(k deep:Nat)(w:World)(t:Tok)(h:ck w g A n c T k deep)(ht:T[k]?=some t)(bA:t.kind=1)(cE:cA [91] T (k+1)=false)(ap:k+1<n) :
  Calls prog 166 #[.pointer (some ⟨g,0,none⟩)] w λe ab=>e=.returned (.agg #[.string (strOf t.text),.slice none 0 0])/\ck ab g A n c T (k+1) deep/\Fr (λb=>b=g) w ab:=by
 have H:=ae h;have bZ:=aE ht bA cE;have ci:=h.blk.lt;clear h bA ht cE;go_enter func166,ntmps166;go_upto_region 1 with(fail);generalize be:World.alloc _ _=W;have aw:=aW be;have cB:=aI be;have ah:=aE (H.aj aw) aw cB;clear be aw cB;go_wp2_with(fail);refine(pt g A n c T k deep W t ah.1 bZ.1 bZ.2.1 ap).mono ?_;exact AP
theorem Gc(g:Nat)(A:L3)(n c:Nat)(T:List Tok)(k deep:Nat)(w:World)(h:ck w g A n c T k deep)(ac:cA [40] T k=true)(au:cA [41] T (k+1)=true)(ap:k+2<n) :
  Calls prog 165 #[.pointer (some ⟨g,0,none⟩)] w λe ab=>e=.returned (.slice none 0 0)/\ck ab g A n c T (k+2) deep/\Fr (λb=>b=g) w ab:=by
 have H:=ae h;have bZ:=ag ac au;clear h ac au;go_enter func165,ntmps165;exact G1
theorem ze(g:Nat)(A:L3)(n c:Nat)(T:List Tok)(k deep:Nat)(w:World)(h:ck w g A n c T k deep)(ac:cA [40] T k=true)(au:cA [41] T (k+1)=true)(ap:k+2<n) :
  Calls prog 125 #[.pointer (some ⟨g,0,none⟩)] w λe ab=>e=.returned (.slice none 0 0)/\ck ab g A n c T (k+2) deep/\Fr (λb=>b=g) w ab:=by
 have H:=ae h;have bZ:=ag ac au;clear h ac au;go_enter func125,ntmps125;exact G1
namespace B8
theorem AQ(h:p:=by
 refine(show Calls prog 121 #[.pointer (some ⟨g,0,none⟩),.string ⟨#[91]⟩] X _ from dB [91] g A n c T (k+1) deep X aQ.1 false bZ.2.2.1 (λh=>by cases h)).mono ?_;rintro e aU ⟨rfl,a1,hF⟩;have bc:=bJ (show ck aU g A n c T (k+1) deep from by simpa using a1) (aQ.2.1.trans hF) (aQ.2.2.1.on hF ad) (aQ.2.2.2.on hF ad);clear a1 hF aQ;go_wp2_with(fail);refine(show Calls prog 146 #[.pointer (some ⟨g,0,none⟩),.string ⟨#[59]⟩] aU _ from m2 [59] g A n c T (k+1) deep aU bc.1 bZ.2.2.2 ad).mono ?_;rintro e b6 ⟨rfl,a1,hF⟩;have bC:=bc.2.2.1.on hF ad;have cG:=bc.2.2.2.on hF ad;have bP:=aE a1 (bc.2.1.trans hF) bC;clear a1 hF bc;obtain⟨d0,aL,aM⟩:=cG.two;obtain⟨bl,aA,aO⟩:=bC.two;clear cG bC;go_wp2_with(fail);generalize cu:World.setCell _ _ _=Y;obtain⟨bK,bt,bR⟩:=dY (M:=λb=>b=g) (w:=w) [.string (strOf t.text),.bool false,.int .i64 0] (by rfl) bP.2.2 bP.2.1 (Lk _) cu;have bu:=ag (bP.1.on bR λb O=>ad) bt;clear cu bt bR bl aA aO;obtain⟨bl,aA,aO⟩:=bK.two;refine LU (v:=.agg #[.string (strOf t.text),.bool false,.int .i64 0]) (by simp[results,Tryz.results123,go_sem,bl]) rfl ?_;exact⟨rfl,bu.1,bu.2⟩
 ):p:=h
end B8
open B8 in
theorem ET(g:Nat)(A:L3)(n c:Nat)(T:List Tok)(k deep:Nat)(w:World)(t:Tok)(h:ck w g A n c T k deep)(ht:T[k]?=some t)(bA:t.kind=1)(cE:cA [91] T (k+1)=false)(au:cA [59] T (k+1)=true)(ap:k+2<n) :
  Calls prog 123 #[.pointer (some ⟨g,0,none⟩),.bool false] w λe ab=>e=.returned (.agg #[.string (strOf t.text),.bool false,.int .i64 0])/\ck ab g A n c T (k+2) deep/\Fr (λb=>b=g) w ab:=by
 have H:=ae h;have bZ:=bJ ht bA cE au;have ci:=h.blk.lt;clear h bA ht cE au;go_enter func123,ntmps123;go_upto_region 1 with(fail);generalize be:World.alloc _ _=W;have aw:=aW be;have cB:=aI be;have ah:=aE (H.aj aw) aw cB;clear be aw cB;go_wp2_with(fail);refine(pt g A n c T k deep W t ah.1 bZ.1 bZ.2.1 ad).mono ?_;exact AP
theorem gx{a b:List UInt8}(h:cA a T k=true)(hn:strOf a≠strOf b):cA b T k=false:=by
 unfold cA at h ⊢
 cases hT:T[k]? with
 | none=>rfl
 | some t=>
  rw[hT] at h;simp only[Lw,LR] at h;simp only[Bool.and_eq_false_iff,decide_eq_false_iff_not];exact .inr λO=>hn (h.2.symm.trans O)
def m9(k:Int)(n m:ByteArray):List Value:=[.int .i64 k,.string n,.int .i64 0,.int .i64 0,.string ⟨#[]⟩,.slice none 0 0,.string m,.slice none 0 0,.slice none 0 0,.slice none 0 0,.slice none 0 0]
theorem Im(n:ByteArray):(bj (.call true n [])).rep w P (m9 4 n ⟨#[]⟩):=eG mm kP (Sl.bR _) (Lk _) (Sl.bR _) (Lk _) (Sl.bR _) (Lk _)
theorem vo(u:Bool)(n:ByteArray):(bj (.lock u ⟨n,none⟩)).rep w P (m9 (if u then 6 else 5) ⟨#[]⟩ n):=
 eG mm (jC.2 ⟨none,0,0,rfl,Lk _,Sl.bR _⟩) (Sl.bR _) (Lk _) (Sl.bR _) (Lk _) (Sl.bR _) (Lk _)
structure zF(w ab:World)(g:Nat)(A:L3)(n c:Nat)(T:List Tok)(k deep:Nat)(cs:List Value):Prop where
 ps:ck ab g A n c T k deep
 fr:Fr (λb=>b=g) w ab
 r:aq ab w.heap.size 207 #[.int .i64 0,.string ⟨#[]⟩,.int .i64 0,.int .i64 0,.string ⟨#[]⟩,.slice none 0 0,.string ⟨#[]⟩,.slice none 0 0,.slice none 0 0,.slice none 0 0,.slice none 0 0]
 s:aq ab (w.heap.size+1) 207 cs.toArray
theorem zF.on{w ab aU:World}{g:Nat}{A:L3}{n c:Nat}{T:List Tok}{k F deep:Nat}{cs:List Value}(h:zF w ab g A n c T k deep cs)(a9:g<w.heap.size)(hp:ck aU g A n c T F deep)(J:Fr (λb=>b=g) ab aU):zF w aU g A n c T F deep cs:=
 ⟨hp,h.fr.trans J,h.r.on J ad,h.s.on J ad⟩
theorem zF.set{ab aU:World}{g:Nat}{A:L3}{n c:Nat}{deep:Nat}{cs f:List Value}(h:zF w ab g A n c T k deep cs)(a9:g<w.heap.size)(J:Fr (λb=>b=w.heap.size+1) ab aU)(hs:aq aU (w.heap.size+1) 207 f.toArray):zF w aU g A n c T k deep f:=
 ⟨h.ps.on J λb O=>ad,h.fr.eR (J.below h.fr.size λk ap hm=>ad),h.r.on J ad,hs⟩
namespace Cd
theorem vQ(h:p:=by
 refine(show Calls prog 121 #[.pointer (some ⟨g,0,none⟩),.string ⟨#[103,111]⟩] aS _ from dB [103,111] g A n c T k deep aS H1.ps true (by first|exact bZ.1|exact gx bZ.1 (by decide)) (λh=>by first|omega|cases h)).mono ?_;rintro e aU ⟨rfl,a1,hF⟩;have bc:=ae (H1.on ci (show ck aU g A n c T (k+1) deep from by simpa using a1) hF);clear a1 hF;clear H1;obtain⟨d0,aL,aM⟩:=bc.s.two;clear d0 aL aM;go_wp2_with(fail);refine(pt g A n c T (k+1) deep aU t bc.ps bZ.2.1 bZ.2.2.1 ad).mono ?_;rintro e j ⟨rfl,a1,hF⟩;have HA:=ae (bc.on ci a1 hF);clear a1 hF bc;obtain⟨d0,aL,aM⟩:=HA.s.two;simp only[m9] at d0;go_upto_region 15 with(fail);generalize hX:World.setCell _ _ _=X;have aQ:L5 (zF w X g A n c T (k+1+1) deep (m9 4 (strOf t.text) ⟨#[]⟩)):=by
  refine ae (HA.set ci (by rw[<-hX];exact((Fr.refl (λb=>b=w.heap.size+1) j).setCell (.inl rfl) _).setCell (.inl rfl) _) ?_);rw[<-hX];exact(HA.s.aM 0 (.int .i64 4)).aM 1 (.string (strOf t.text))
 clear hX d0 aL aM HA;go_wp2_with(fail);refine(Gc g A n c T (k+1+1) deep X aQ.ps bZ.2.2.2.1 bZ.2.2.2.2.1 ad).mono ?_;rintro e wb ⟨rfl,a1,hF⟩;have bO:=ae (aQ.on ci a1 hF);clear a1 hF aQ;obtain⟨d0,aL,aM⟩:=bO.s.two;simp only[m9] at d0;go_upto_region 16 with(fail);generalize hX:World.setCell _ _ _=Y;have bu:L5 (zF w Y g A n c T (k+1+1+2) deep (m9 4 (strOf t.text) ⟨#[]⟩)):=by
  refine ae (bO.set ci (by rw[<-hX];exact(Fr.refl (λb=>b=w.heap.size+1) wb).setCell (.inl rfl) _) ?_);rw[<-hX];exact bO.s.aM 8 (.slice none 0 0)
 clear hX d0 aL aM bO;go_wp2_with(fail);refine(show Calls prog 146 #[.pointer (some ⟨g,0,none⟩),.string ⟨#[59]⟩] Y _ from m2 [59] g A n c T (k+1+1+2) deep Y bu.ps bZ.2.2.2.2.2 ad).mono ?_;rintro e cc ⟨rfl,a1,hF⟩;have bh:=ae (bu.on ci a1 hF);clear a1 hF bu;obtain⟨d0,aL,aM⟩:=bh.s.two;obtain⟨bl,aA,aO⟩:=bh.r.two;simp only[m9] at d0;go_wp2_with(fail);generalize hX:World.setCell _ _ _=V;obtain⟨b7,bm,i⟩:=dY (M:=λb=>b=g) (w:=w) (m9 4 (strOf t.text) ⟨#[]⟩) (by rfl) bh.r bh.fr (Lk _) hX;have ce:=ag (bh.ps.on i λb O=>ad) bm;clear hX bm i bl aA aO d0 aL aM;obtain⟨bl,aA,aO⟩:=b7.two;simp only[m9] at bl;refine LU (v:=.agg (m9 4 (strOf t.text) ⟨#[]⟩).toArray) (by simp[results,Tryz.results147,go_sem,bl,m9]) rfl ?_;exact⟨rfl,ce.1,ce.2⟩
 ):p:=h
end Cd
open Cd in
theorem Jo(g:Nat)(A:L3)(n c:Nat)(T:List Tok)(k deep:Nat)(w:World)(t:Tok)(h:ck w g A n c T k deep)(ac:cA [103,111] T k=true)(ht:T[k+1]?=some t)(bA:t.kind=1)(au:cA [40] T (k+2)=true)(aY:cA [41] T (k+3)=true)(bR:cA [59] T (k+4)=true)(ap:k+5<n) :
  Calls prog 147 #[.pointer (some ⟨g,0,none⟩)] w λe ab=>e=.returned (.agg (m9 4 (strOf t.text) ⟨#[]⟩).toArray)/\ck ab g A n c T (k+5) deep/\Fr (λb=>b=g) w ab:=by
 have H:=ae h;have bZ:=cH ac ht bA au aY bR;have ci:=h.blk.lt;clear h ac ht bA au aY bR;exact vP
namespace Ce
theorem AH(h:p:=by
 obtain⟨b7,bm,i⟩:=dY (M:=λb=>b=g) (w:=w) (m9 5 ⟨#[]⟩ (strOf t.text)) (by rfl) bh.r bh.fr (Lk _) hX;have ce:=ag (bh.ps.on i λb O=>ad) bm;clear hX bm i bl aA aO d0 aL aM;obtain⟨bl,aA,aO⟩:=b7.two;simp only[m9] at bl;refine LU (v:=.agg (m9 5 ⟨#[]⟩ (strOf t.text)).toArray) (by simp[results,Tryz.results147,go_sem,bl,m9]) rfl ?_;exact⟨rfl,ce.1,ce.2⟩
 ):p:=h
theorem AO(h:p:=by
 refine(show Calls prog 121 #[.pointer (some ⟨g,0,none⟩),.string ⟨#[108,111,99,107]⟩] aU _ from dB [108,111,99,107] g A n c T k deep aU bc.ps true (by first|exact bZ.1|exact gx bZ.1 (by decide)) (λh=>by first|omega|cases h)).mono ?_;rintro e b6 ⟨rfl,a1,hF⟩;have bP:=ae (bc.on ci (show ck b6 g A n c T (k+1) deep from by simpa using a1) hF);clear a1 hF;clear bc;go_wp2_with(fail);refine(EU g A n c T (k+1) deep b6 t bP.ps bZ.2.1 bZ.2.2.1 bZ.2.2.2.1 ad).mono ?_;rintro e j ⟨rfl,a1,hF⟩;have HA:=ae (bP.on ci a1 hF);clear a1 hF bP;obtain⟨d0,aL,aM⟩:=HA.s.two;simp only[m9] at d0;go_upto_region 19 with(fail);generalize hX:World.setCell _ _ _=X;have aQ:L5 (zF w X g A n c T (k+1+1) deep (m9 5 ⟨#[]⟩ (strOf t.text))):=by
  refine ae (HA.set ci (by rw[<-hX];exact(((Fr.refl (λb=>b=w.heap.size+1) j).setCell (.inl rfl) _).setCell (.inl rfl) _).setCell (.inl rfl) _) ?_);rw[<-hX];exact((HA.s.aM 0 (.int .i64 5)).aM 6 (.string (strOf t.text))).aM 7 (.slice none 0 0)
 exact AG
 ):p:=h
theorem vQ(h:p:=by
 exact AN
 ):p:=h
end Ce
open Ce in
theorem Gd(g:Nat)(A:L3)(n c:Nat)(T:List Tok)(k deep:Nat)(w:World)(t:Tok)(h:ck w g A n c T k deep)(ac:cA [108,111,99,107] T k=true)(ht:T[k+1]?=some t)(bA:t.kind=1)(cE:cA [91] T (k+2)=false)(au:cA [59] T (k+2)=true)(ap:k+3<n) :
  Calls prog 147 #[.pointer (some ⟨g,0,none⟩)] w λe ab=>e=.returned (.agg (m9 5 ⟨#[]⟩ (strOf t.text)).toArray)/\ck ab g A n c T (k+3) deep/\Fr (λb=>b=g) w ab:=by
 have H:=ae h;have bZ:=cJ ac ht bA cE au;have ci:=h.blk.lt;clear h ac ht bA cE au;exact vP
namespace Cf
theorem AH(h:p:=by
 obtain⟨b7,bm,i⟩:=dY (M:=λb=>b=g) (w:=w) (m9 6 ⟨#[]⟩ (strOf t.text)) (by rfl) bh.r bh.fr (Lk _) hX;have ce:=ag (bh.ps.on i λb O=>ad) bm;clear hX bm i bl aA aO d0 aL aM;obtain⟨bl,aA,aO⟩:=b7.two;simp only[m9] at bl;refine LU (v:=.agg (m9 6 ⟨#[]⟩ (strOf t.text)).toArray) (by simp[results,Tryz.results147,go_sem,bl,m9]) rfl ?_;exact⟨rfl,ce.1,ce.2⟩
 ):p:=h
theorem AO(h:p:=by
 refine(show Calls prog 121 #[.pointer (some ⟨g,0,none⟩),.string ⟨#[108,111,99,107]⟩] aU _ from dB [108,111,99,107] g A n c T k deep aU bc.ps false (by first|exact bZ.1|exact gx bZ.1 (by decide)) (λh=>by first|omega|cases h)).mono ?_;rintro e b6 ⟨rfl,a1,hF⟩;have bP:=ae (bc.on ci (show ck b6 g A n c T (k) deep from by simpa using a1) hF);clear a1 hF;clear bc;go_wp2_with(fail);refine(show Calls prog 121 #[.pointer (some ⟨g,0,none⟩),.string ⟨#[117,110,108,111,99,107]⟩] b6 _ from dB [117,110,108,111,99,107] g A n c T k deep b6 bP.ps true (by first|exact bZ.1|exact gx bZ.1 (by decide)) (λh=>by first|omega|cases h)).mono ?_;rintro e cK ⟨rfl,a1,hF⟩;have b5:=ae (bP.on ci (show ck cK g A n c T (k+1) deep from by simpa using a1) hF);clear a1 hF;clear bP;go_wp2_with(fail);refine(EU g A n c T (k+1) deep cK t b5.ps bZ.2.1 bZ.2.2.1 bZ.2.2.2.1 ad).mono ?_;rintro e j ⟨rfl,a1,hF⟩;have HA:=ae (b5.on ci a1 hF);clear a1 hF b5;obtain⟨d0,aL,aM⟩:=HA.s.two;simp only[m9] at d0;go_upto_region 22 with(fail);generalize hX:World.setCell _ _ _=X;have aQ:L5 (zF w X g A n c T (k+1+1) deep (m9 6 ⟨#[]⟩ (strOf t.text))):=by
  refine ae (HA.set ci (by rw[<-hX];exact(((Fr.refl (λb=>b=w.heap.size+1) j).setCell (.inl rfl) _).setCell (.inl rfl) _).setCell (.inl rfl) _) ?_);rw[<-hX];exact((HA.s.aM 0 (.int .i64 6)).aM 6 (.string (strOf t.text))).aM 7 (.slice none 0 0)
 exact AG
 ):p:=h
theorem vQ(h:p:=by
 exact AN
 ):p:=h
end Cf
open Cf in
theorem zf(g:Nat)(A:L3)(n c:Nat)(T:List Tok)(k deep:Nat)(w:World)(t:Tok)(h:ck w g A n c T k deep)(ac:cA [117,110,108,111,99,107] T k=true)(ht:T[k+1]?=some t)(bA:t.kind=1)(cE:cA [91] T (k+2)=false)(au:cA [59] T (k+2)=true)(ap:k+3<n) :
  Calls prog 147 #[.pointer (some ⟨g,0,none⟩)] w λe ab=>e=.returned (.agg (m9 6 ⟨#[]⟩ (strOf t.text)).toArray)/\ck ab g A n c T (k+3) deep/\Fr (λb=>b=g) w ab:=by
 have H:=ae h;have bZ:=cJ ac ht bA cE au;have ci:=h.blk.lt;clear h ac ht bA cE au;exact vP
def tI(T:List Tok)(k:Nat):Option (aA×Nat):=match T[k+1]? with
 | none=>none
 | some t=>
  if t.kind=1 then
   if cA [103,111] T k && cA [40] T (k+2) && cA [41] T (k+3) && cA [59] T (k+4) && decide (k+5<T.length) then some (.call true (strOf t.text) [],k+5)
   else if cA [108,111,99,107] T k && !cA [91] T (k+2) && cA [59] T (k+2) && decide (k+3<T.length) then some (.lock false ⟨strOf t.text,none⟩,k+3)
   else if cA [117,110,108,111,99,107] T k && !cA [91] T (k+2) && cA [59] T (k+2) && decide (k+3<T.length) then some (.lock true ⟨strOf t.text,none⟩,k+3)
   else none
  else none
theorem ys{st:aA}(h:tI T k=some (st,F)):k+3<=F:=by
 unfold tI at h;split at h
 .cases h
 .split at h
  .split at h
   .injection h with h;injection h with _ h;omega
   .split at h
    .injection h with h;injection h with _ h;omega
    .split at h
     .injection h with h;injection h with _ h;omega
     .cases h
  .cases h
theorem Ge(g:Nat)(A:L3)(n c:Nat)(T:List Tok)(k deep:Nat)(w:World)(st:aA)(F:Nat)(h:ck w g A n c T k deep)(hs:tI T k=some (st,F)) :
  Calls prog 147 #[.pointer (some ⟨g,0,none⟩)] w λe ab=>∃(q:Int) (a b:ByteArray),e=.returned (.agg #[.int .i64 q,.string a,.int .i64 0,.int .i64 0,.string ⟨#[]⟩,.slice none 0 0,.string b,.slice none 0 0,.slice none 0 0,.slice none 0 0,.slice none 0 0])/\(∀w P,(bj st).rep w P (m9 q a b))/\ck ab g A n c T F deep/\Fr (λb=>b=g) w ab:=by
 have hl:=h.tL.1;unfold tI at hs;split at hs
 .cases hs
 .rename_i t ht;split at hs
  .rename_i bA;split at hs
   .rename_i hc;simp only[Lw,LR] at hc;injection hs with hs;injection hs with ac au;subst ac au;refine(Jo g A n c T k deep w t h hc.1.1.1.1 ht bA hc.1.1.1.2 hc.1.1.2 hc.1.2 ad).mono ?_;rintro e ab ⟨rfl,a1,hF⟩;exact⟨4,_,_,rfl,λw P=>Im _,a1,hF⟩
   .split at hs
    .rename_i hc;simp only[Lw,LR,Bool.not_eq_true'] at hc;injection hs with hs;injection hs with ac au;subst ac au;refine(Gd g A n c T k deep w t h hc.1.1.1 ht bA hc.1.1.2 hc.1.2 ad).mono ?_;rintro e ab ⟨rfl,a1,hF⟩;exact⟨5,_,_,rfl,λw P=>vo false _,a1,hF⟩
    .split at hs
     .rename_i hc;simp only[Lw,LR,Bool.not_eq_true'] at hc;injection hs with hs;injection hs with ac au;subst ac au;refine(zf g A n c T k deep w t h hc.1.1.1 ht bA hc.1.1.2 hc.1.2 ad).mono ?_;rintro e ab ⟨rfl,a1,hF⟩;exact⟨6,_,_,rfl,λw P=>vo true _,a1,hF⟩
     .cases hs
  .cases hs
def jO(T:List Tok):Nat->Nat->Option (List aA×Nat)
 | 0,_=>none
 | f+1,k=>if cA [125] T k then (if k+1<T.length then some ([],k+1) else none) else (tI T k).bind λp=>(jO T f p.2).map λq=>(p.1::q.1,q.2)
theorem xg{f:Nat}{ls:List aA}(h:jO T f k=some (ls,F)):(cA [125] T k=true/\k+1<T.length/\ls=[]/\F=k+1)\/(cA [125] T k=false/\∃(st:aA) (bS f2:Nat) (t:List aA),tI T k=some (st,bS)/\jO T f2 bS=some (t,F)/\ls=st::t):=by
 cases f with
 | zero=>cases h
 | succ f=>
  simp only[jO] at h;split at h
  .rename_i ac;split at h
   .rename_i au;injection h with h;injection h with aY bR;exact .inl ⟨ac,au,aY.symm,bR.symm⟩
   .cases h
  .rename_i ac
   cases hs:tI T k with
   | none=>rw[hs] at h;cases h
   | some p=>
    rw[hs] at h;obtain⟨st,bS⟩:=p;simp only[Option.bind_some] at h
    cases ba:jO T f bS with
    | none=>rw[ba] at h;cases h
    | some q=>
     rw[ba] at h;simp only[Option.map_some] at h;injection h with h;injection h with aY bR;subst bR;exact .inr ⟨by simpa using ac,st,bS,f,q.1,rfl,ba,aY.symm⟩
def Jb:Value->Nat
 | .slice _ n _=>n
 | _=>0
theorem ES(g:Nat)(A:L3)(n c:Nat)(T:List Tok)(k deep:Nat)(w:World)(f:Nat)(ls:List aA)(F:Nat)(h:ck w g A n c T k deep)(hd:deep<24)(ac:cA [123] T k=true)(ap:k+1<n)(hs:jO T f (k+1)=some (ls,F)) :
  Calls prog 126 #[.pointer (some ⟨g,0,none⟩)] w λe ab=>∃(bM:L3) (on b4:Nat),e=.returned (.slice bM on b4)/\on<=b4/\Sl ab (fresh w ab) bM on (ls.map bj)/\ck ab g A n c T F deep/\Fr (λb=>b=g) w ab:=by
 have H:=ae h;have bZ:=ag ac hs;have ci:=h.blk.lt;have L:=h.jF;have ay:((deep:Int) == 24)=false:=by simp;omega
 clear h ac hs;go_enter func126,ntmps126;go_wp2_with(fail);refine(show Calls prog 119 #[.pointer (some ⟨g,0,none⟩),.string ⟨#[123]⟩] w _ from lO [123] g A n c T k deep w H.o).mono ?_;rintro e aS ⟨rfl,aw⟩;rw[bZ.1];have H1:=ag (H.aj aw) (aw.mono (M':=λb=>b=g) λ_ h=>h.elim);clear aw;obtain⟨a0,aj,af⟩:=H1.1.blk.two;go_wp2_with(fail);refine(show Calls prog 146 #[.pointer (some ⟨g,0,none⟩),.string ⟨#[123]⟩] aS _ from m2 [123] g A n c T k deep aS H1.1 bZ.1 ap).mono ?_;rintro e aU ⟨rfl,a1,hF⟩;have bc:=ag a1 (H1.2.trans hF);clear a1 hF a0 aj af H1;obtain⟨a0,aj,af⟩:=bc.1.blk.two;go_upto_region 5 with(fail);generalize hX:World.setCell _ _ _=X;have J:=cO hX;have aR:aq X g 193 #[.slice A n c,.int .i64 ((k+1:Nat):Int),.int .i64 0,.int .i64 0,.int .i64 0,.int .i64 ((deep+1:Nat):Int)]:=hX▸bc.1.blk.aM 5 (.int .i64 ((deep:Int)+1));have aQ:=ag (show ck X g A n c T (k+1) (deep+1) from ⟨aR,bc.1.tL.dS (J.below (aD bc.1.blk.lt) λb O hm=>ad),ap,L⟩) (bc.2.trans J);clear hX J aR a0 aj af bc;go_wp2_with(fail);go_loopw [3] (λaT wr=>∃(bM:L3) (on b4 j aF:Nat) (acc rest:List aA),aT=.slice bM on b4/\on<=j/\ck wr g A n c T j (deep+1)/\Fr (λb=>b=g) w wr/\Gr (λ_=>False) w.heap.size 207 11 wr bM on b4 (acc.map bj)/\jO T aF j=some (rest,F)/\acc++rest=ls) (λaT _=>4001 - Jb aT)
 case atStart=>exact⟨none,0,0,k+1,f,[],ls,rfl,ad,aQ.1,aQ.2,Gr.nil _ _ _ _ _,bZ.2,rfl⟩
 case round=>
  obtain⟨bM,on,b4,j,aF,acc,rest,rfl,c2,a1,hF,hG,ch,y⟩:=hrel;clear aQ;have G:=a1.lt;have a3:=bJ a1 hF hG y;obtain⟨a0,aj,af⟩:=a1.blk.two;have nt:=hF.size;clear a1 hF hG y;rcases xg ch with⟨hc,f0,i,E⟩|⟨hc,st,bS,f2,t,cr,bN,cW⟩
  .have bV:=bJ hc f0 i E;clear hc f0 i E ch;go_wp2_with(fail);refine(show Calls prog 121 #[.pointer (some ⟨g,0,none⟩),.string ⟨#[125]⟩] wr _ from dB [125] g A n c T j (deep+1) wr a3.1 true bV.1 (λ_=>by have:=bV.2.1;have:=a3.1.tL.1;omega)).mono ?_;rintro e b6 ⟨rfl,a1,hF⟩;have bP:=ag (show ck b6 g A n c T (j+1) (deep+1) from by simpa using a1) hF;clear a1 hF a0 aj af;obtain⟨a0,aj,af⟩:=bP.1.blk.two;go_upto_region 9 with(fail);generalize hX:World.setCell _ _ _=X;have J:=cO hX;have aR:aq X g 193 #[.slice A n c,.int .i64 ((j+1:Nat):Int),.int .i64 0,.int .i64 0,.int .i64 0,.int .i64 (deep:Int)]:=hX▸bP.1.blk.aM 5 (.int .i64 (deep:Int));have az:Fr (λb=>b=g) wr X:=bP.2.trans J;have aQ:=aE (show ck X g A n c T (j+1) deep from ⟨aR,bP.1.tL.dS (J.below (aD bP.1.blk.lt) λb O hm=>ad),bP.1.lt,L⟩) (a3.2.1.trans az) (a3.2.2.1.c8 az λb O _=>⟨λh=>h,ad⟩);clear hX J aR az a0 aj af bP;go_wp2_with(fail);go_ret;refine⟨bM,on,b4,rfl,aQ.2.2.cap.1,?_,by rw[bV.2.2.2];exact aQ.1,aQ.2.1⟩;have cI:=a3.2.2.2;rw[bV.2.2.1,LM] at cI;rw[<-cI];exact aQ.2.2.sl (λb _ h=>h.elim) λb O hp=>⟨hp,O⟩
  .have bV:=bJ hc cr bN cW;have b0:=ys cr;clear hc cr bN cW ch;go_wp2_with(fail);refine(show Calls prog 121 #[.pointer (some ⟨g,0,none⟩),.string ⟨#[125]⟩] wr _ from dB [125] g A n c T j (deep+1) wr a3.1 false bV.1 (λh=>by cases h)).mono ?_;rintro e b6 ⟨rfl,a1,hF⟩;have bP:=ag (show ck b6 g A n c T j (deep+1) from by simpa using a1) hF;clear a1 hF a0 aj af;go_wp2_with(fail);refine(Ge g A n c T j (deep+1) b6 st bS bP.1 bV.2.1).mono ?_;rintro e cK ⟨q,a,b,rfl,b1,a1,hF⟩;have az:Fr (λb=>b=g) wr cK:=bP.2.trans hF;have m:=a3.2.2.1.c8 az λb O _=>⟨λh=>h,ad⟩
   have hd:=b1 cK (lL (λ_=>False) cK (.slice bM on b4));have ak:w.heap.size<=cK.heap.size:=by have:=az.size;omega
   have b5:=bJ a1 (a3.2.1.trans az) m hd;clear a1 hF az m hd b1 bP;go_wp2_with(at_builtin;refine bT oW rfl (.tmp 34) (.tmp 37) rfl b5.2.2.1 b5.2.2.2 rfl rfl rfl ad ad ak ?_;intro bf cm c7 bH az cl ca;have bY:=ag bH az;clear bH az cl ca);have bB:∀b,(Value.slice bM on b4).ownBlock=some b->w.heap.size<=b:=λb O=>(b5.2.2.1.lt O).1;have aZ:Fr (λb=>b=g) w c7:=b5.2.1.eR (bY.2.below ak λk ap h=>by have:=bB k h;omega);have cR:=aE (b5.1.on bY.2 λb O=>by have:=bB b O;omega) aZ bY.1;clear bB aZ bY b5;go_roundw
   case rel=>exact⟨bf,on+1,cm,bS,f2,acc++[st],t,rfl,ad,cR.1,cR.2.1,by rw[Lr];exact cR.2.2,bV.2.2.1,by have:=a3.2.2.2;rw[bV.2.2.2] at this;rw[<-this];simp⟩
   case measure=>simp only[Jb];omega
end Go.Proofs.YtkhnkojkplbioaaGreat

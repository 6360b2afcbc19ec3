/- Part 43 of the proof. No condition of its own. -/
import Derived.Test.YtflecliffjbleaaGreatS42
namespace Go.Proofs.YtflecliffjbleaaGreat
open Go.RowKit Go.Proofs.Tryz
set_option maxRecDepth 1000000
set_option maxHeartbeats 25600000
set_option linter.unusedVariables false
variable{T:List Tok}{k:Nat}{P:Nat->Prop}{p:Prop}{ab w:World}
theorem fu{a b:List UInt8}(h:b3 a T k=true)(hn:strOf a≠strOf b):b3 b T k=false:=by
 unfold b3 at h ⊢
 cases hT:T[k]? with
 | none=>rfl
 | some t=>
  rw[hT] at h;simp only[LO,Md] at h;simp only[Bool.and_eq_false_iff,decide_eq_false_iff_not];exact .inr λO=>hn (h.2.symm.trans O)
namespace Dm
theorem dd(h:p:=by
 try simp only[LW]
 generalize hX:World.setCell _ _ _=X;have aR:=ae (hX▸bM.o);clear hX bM e0 e1 e2 a5 f2 N y;go_wp2_with(fail);go_roundw
 case rel=>exact⟨i+1,a6,F.set i {f with body:=.eT ls},by go_num,ad,aR.o⟩
 case measure=>exact aE
 ):p:=h
end Dm
open Dm in
theorem Kh(S:World)(gV:Value)(bE az:Act->World->Prop)(ac:∀a ab,Code.wp prog (nU 32) (Exit.then az (bodyPost prog Tryz.f56 (kq S))) a ab->bE a ab)(ax:∀a ab,Code.wp prog (HB 42) (bodyPost prog Tryz.f56 (kq S)) a ab->az a ab) :
  Fy S gV (Exit.then az (bodyPost prog Tryz.f56 (kq S))) bE:=by
 unfold Fy;intro u A n c l ar MA mn mc M GA gn gc G av a7 FA fn fc F hs ht gO gU u8 gQ eX gw gx cc bW bw u16 cM gz eY eZ e3 e4 e5 e6 e7 e8 e9 fa fb fd fe u32 ff fi fj fl fo fp fq fr fs ft fu fv fw fx fy fz fA fB fC fE fF fG fH fI fJ fK fL fM fN fP fQ u64 fR fS fT fU fV fW fX fY fZ f3 f4 f5 f6 f7 f8 f9 ga gb gd ge gf gg gh gi gj gk gl gm go gp gq gs gt gu gv H I am aJ aK aL aO aZ a8 bb bd bf bo bs bz bC bK bZ b2 b6 b9 cd cg ch cl cm cn co cA cB cE cF cG cH cK cL cP cQ cR cS cT cU cV cW cY cZ c4 c5 c6 c7 c8 c9 da db dc de df dg dh di dj dk dl dm dn dp dq dr ds dt du dv dw dy dz dA dB dC dD dE dF dG dH dI dJ dK dM dN dO dR dS dV dW dX dY dZ d0 d1 d2 d3 d4 d5 d6 d7 d8 d9 ea eb ec ed ee eg eh ei ej ek el em en eo ep eq er es et ev ew ex ey ez eA eB eC eD eE eF eG eH eI eJ eL eN eO eP eQ eR eS eT eU bj gA gB gC gD gE gF gG gH gI gJ gK gL gM gN w bl be;obtain⟨fg,rfl,a4⟩:=be.Kh bl;have bg:=ae a4;clear be a4;conv=>arg 2;whnf
 conv at ac=>enter [a,w,1,2];whnf
 conv at ax=>enter [a,w,1,2];whnf
 go_wp2_with(fail);go_loopw [16] (λcw wr=>∃(i L:Nat) (F:List aG),cw=.int .i64 i/\i<=fn/\oZ S u A n c l ar MA mn mc M GA gn gc G av a7 fg fn fc wr F i L) (λcw _=>fn - (intOf cw).toNat)
 case atStart=>exact⟨0,24,F,rfl,ad,bg.o⟩
 case round=>
  obtain⟨i,L,F,rfl,al,be⟩:=hrel;obtain⟨T,rfl⟩:∃T,T=wr:=⟨wr,rfl⟩
  clear bg;have cj:=ae be;obtain⟨a0,ak,af⟩:=be.blk.two;have ce:=be.hD;have bN:=be.own;clear be;by_cases ap:i<fn
  .have aU:(i:Int)<(fn:Int):=ad;have f1:(0:Int)<=(i:Int):=ad;obtain⟨f,QA,b8,qc,fD,bn,bc,J,bG,b0,dx,E⟩:=cj.Jn ap;have bS:=aA J dx E;have t:f.params.length=b8:=by have:=dx.1;simpa using this
   clear J dx E;have ai:=ae cj.len.2.2;have bk:Gr (λ_=>False) T.heap.size 9 1 (T.alloc (.cells #[] 9)) (some ⟨T.heap.size,0,none⟩) 0 0 []:=Gr.lit (w:=T) (n:=0) (l:=[]) rfl (by rfl) ad (by simp only[D.aO]);have m:Ext T (T.alloc (.cells #[] 9)):=Mg.alloc _;have aw:Src (T.alloc (.cells #[] 9)) 1 av gn ((G.map (·.1)).map Value.string):=vl (cj.aj m).vs;have g:av=none->gn=0:=λh=>by subst h;exact Sl.none_ cj.vs
   have ci:T.heap.size<=(T.alloc (.cells #[] 9)).heap.size:=by simp
   have ba:=cj.ng;have bV:=cj.nf.2;go_upto_region 36 with(at_builtin;go_loud (refine q6 kE rfl (.tmp 194) (.tmp 195) rfl bk (n8 (G.map (·.1))) (by rw[LG,LG];exact ai.o) aw g rfl rfl ad ad ci ?_);intro cD c3 b4 fh aP bu aX;have aD:=ah fh aP;clear fh aP bu aX);have a3:Ext T b4:=m.eU (aD.2.below (by simp) λk aj h=>by
    simp[Value.ownBlock] at h;omega)
   have fh:=aD.1;simp only[LW,L8] at fh;have bY:=ah a3 fh;clear a3 fh aD bk m aw g ci a0 ak af
   try simp only[LW]
   go_wp2_with(fail);go_loopw [17,18] (λQ bR wr=>∃(j:Nat) (bH:Mk) (on bB:Nat),Q=.slice bH on bB/\bR=.int .i64 j/\j<=b8/\Ext T wr/\Gr (λ_=>False) T.heap.size 9 1 wr bH on bB ((G.map (·.1)++cC (f.params.take j)).map D.s)) (λ_ bR _=>b8 - (intOf bR).toNat)
   case atStart=>exact⟨0,cD,gn,c3,rfl,rfl,ad,bY.1,by simpa[cC] using bY.2⟩
   case round=>
    obtain⟨j,bH,on,bB,rfl,rfl,bi,aF,hG⟩:=hrel;clear bY;have U:on=(G.map (·.1)).length+(cC (f.params.take j)).length:=by have:=hG.len;simpa using this.symm
    have b7:on<=4:=by
     have cy:=s9 (f.params.take j);have bQ:=ai.o;rw[List.length_take] at cy;rw[LG] at U;omega
    have a2:=bA (cj.aj aF) aF hG (bS.2.2.ak (aF.block fg bN.2 (λh=>h)));obtain⟨aq,bv⟩:=aH t U;have R:=aF.size;clear aF hG t U;obtain⟨a0,ak,af⟩:=a2.1.blk.two;obtain⟨e0,e1,e2⟩:=a2.2.2.2;by_cases b3:j<b8
    .have fm:(j:Int)<(b8:Int):=ad;have cI:(0:Int)<=(j:Int):=ad;obtain⟨pb,gW,q,cs,bT,dT,hm,a9,bq,hc⟩:=Sl.g9 (z:=2) (bS.2.1.ak λb O=>a2.2.1.block b O.2 (λh=>h)) (λ_=>rfl) b3;obtain rfl:=tv.1 a9;subst bT;have c0:=hc 0 _ rfl;have c1:=hc 1 _ rfl;simp only[LM] at c0 c1;have eV:=ae hm;clear a9 hc bq hm dT;obtain⟨q1,cO⟩:=q;simp only at c0 c1;have aN:=ru eV.o
     cases cO with
     | true=>
      go_wp2_with(fail);go_roundw
      case rel=>exact⟨j+1,bH,on,bB,rfl,by go_num,ad,a2.2.1,by rw[aN];simpa using a2.2.2.1⟩
      case measure=>exact aE
     | false=>
      have hd:(D.s q1).rep wr (ly (λ_=>False) wr (.slice bH on bB)) [.string q1]:=by simp only[D.rep]
      have dQ:=ae hd;clear hd;go_wp2_with(at_builtin;refine bI kE rfl (.tmp 225) (.tmp 239) rfl a2.2.2.1 dQ.o rfl rfl rfl ad ad R ?_;intro a1 bU b4 an ay b1 cf;have ca:=ah an ay;clear an ay b1 cf);have bm:∀b,(Value.slice bH on bB).ownBlock=some b->T.heap.size<=b:=λb O=>(a2.2.2.1.lt O).1;have aT:Ext T b4:=a2.2.1.eU (ca.2.below R λk aj h=>by have:=bm k h;omega);have bt:=ae aT;clear bm aT;go_roundw
      case rel=>exact⟨j+1,a1,on+1,bU,rfl,by go_num,ad,bt.o,by rw[aN];simpa[LJ,<-List.append_assoc] using ca.1⟩
      case measure=>exact aE
    .obtain rfl:j=b8:=ad;have eW:f.params.take j=f.params:=LK (aB aq.o);have r:=a2.1.aj Mg.drew;have N:=a2.2.2.2.ak (ab:=wr.drew) rfl;have ag:=a2.2.2.1.aj Mg.drew;rw[eW] at ag;have y:=r.blk;have aY:=r.own;have cb:(G.map (·.1)++cC f.params).length+L<=60:=by
      have cy:=bv.o;rw[eW] at cy;have bQ:=r.kR;rw[LD];omega
     have Z:=r.lR.free (f:=f) (LF bS.1);have aQ:=r.kR;have dQ:=bA r ag cb Z;clear r ag cb Z eW;go_upto_region 41 with(fail);clear e0 e1 e2 a0 ak af;refine k7 (RW (S.heap.size+1) (.pointer (some ⟨S.heap.size+1,0,none⟩)) (.slice GA gn gc) (.slice MA mn mc) (.slice (some ⟨fg,0,none⟩) fn fc) (.bool ar)) [(0,3),(1,3),(2,3),(3,3),(4,0),(5,3),(6,3),(7,3),(8,3),(9,3),(10,3),(11,0),(12,3),(13,3),(14,0),(15,3),(16,1),(17,3),(18,3),(19,2)] (by kernel_rfl) (by kernel_rfl) (λw=>RW.refl w) (λ_ _ _ h k=>h.trans k) (λ_ _ d _ _ h=>by cases d<;>exact h) ?_
     iterate 4 refine pf ?_
     refine bO (v:=?_) rfl (by rfl) (λV hV=>?_) ?_;rotate_left
     .obtain⟨bX,b5⟩:=hV.wb _ y;obtain⟨hVc,hVf,cb⟩:=b5.two
      (go_simp<;>with_reducible rfl)
     try simp only[PU]
     iterate 6 refine pf ?_
     refine bO (v:=?_) rfl (by rfl) (λV hV=>?_) ?_;rotate_left
     .obtain⟨bX,b5⟩:=hV.wb _ y;obtain⟨hVc,hVf,cb⟩:=b5.two
      (go_simp<;>with_reducible rfl)
     try simp only[PU]
     iterate 2 refine pf ?_
     refine bO (v:=?_) rfl (by rfl) (λV hV=>?_) ?_;rotate_left
     .obtain⟨e0,e1,e2⟩:=N.ak (hV.fr.block fg aY.2 ad)
      (go_simp<;>with_reducible rfl)
     try simp only[PU]
     refine pf ?_;refine aI rfl (λK hK=>?_);go_simp;refine(Fj ⟨S.heap.size+1,S.heap.size+1+1,A,n,c,l,GA,gn,gc,MA,mn,mc,some ⟨fg,0,none⟩,fn,fc,M,F,ar⟩ L (G.map (·.1)++cC f.params) (bh ⟨G,M,F⟩++f.params.map (·.1)) bH on bB f.name f.params QA j qc (.slice fD bn bc) wr.drew dQ.1.wr (dQ.2.1.sl (λb _ h=>h.elim) (λb O aS=>⟨O,λhm=>by rcases hm with hm|hm<;>(simp only at hm;omega)⟩)) dQ.2.2.1 (λk aj=>dQ.2.2.2 k ad) ((bS.2.1.ak λb O=>(a2.2.1.trans Mg.drew).block b O.2 (λh=>h)).mono λb O=>⟨by have:=O.2;have:=R;show b<wr.heap.size;omega,λhm=>by have:=O.1;rcases hm with hm|hm<;>(simp only at hm;omega)⟩) bG).mono ?_;rintro e aW ⟨ls,a6,cr,cp,ck,rfl,bL,cf,bP,P,aa⟩;have o:¬(fg=S.heap.size+1\/fg=S.heap.size+1+1):=ad;have ao:=o;obtain⟨cur,s⟩:=dQ.1.fs.JU;have a5:=(s.on aa o).frozen;have f2:=(s.on aa o).lt;obtain⟨e0,e1,e2⟩:=N.ak (aa.block fg aY.2 o);have bM:=ae (dQ.1.body bS.1 P aa bL cf bP);refine dP hK (⟨aa,λ_ _=>⟨a6,P.blk⟩⟩) ?_;clear hK K;clear bL cf bP P aa s o ao
     iterate 2 refine pf ?_
     exact eM
  .have aU:¬(i:Int)<(fn:Int):=ad;have W:i=fn:=ad;have br:=ae W;clear W;have dL:=cj.res;obtain⟨bp,aM,aV⟩:=dL.two;clear dL;go_wp2_with(fail);generalize cq:World.setCell _ _ _=Y;have be:=cj.o;rw[br.o] at be;obtain⟨bD,bx,bJ⟩:=ef (M:=λ_=>False) [.slice GA gn gc,.slice MA mn mc,.slice (some ⟨fg,0,none⟩) fn fc] (by rfl) be.res (w:=S) be.ext (Lz _) cq;have bF:=ae (be.Kl bJ);clear bp aM aV cq be bJ a0 ak af;obtain⟨bp,aM,aV⟩:=bD.two;refine Mf (v:=.agg #[.slice GA gn gc,.slice MA mn mc,.slice (some ⟨fg,0,none⟩) fn fc]) (by simp[results,Tryz.results56,go_sem,bp]) rfl ?_;exact bF.o
namespace CO
theorem A1(h:p:=by
 refine(show Calls prog 62 #[.pointer (some ⟨g,0,none⟩),.string ⟨#[91]⟩] X _ from cG [91] g A n c T (k+1) deep X aR.1 false bS.2.2 (λh=>by cases h)).mono ?_;rintro e aW ⟨rfl,be,hF⟩;have bV:=aR.2.2.1.on hF ad;have cn:=aR.2.2.2.on hF ad;have bZ:=aA (show bG aW g A n c T (k+1) deep from by simpa using be) (aR.2.1.trans hF) bV;clear be hF aR;obtain⟨d0,aK,aO⟩:=cn.two;obtain⟨bp,aM,aV⟩:=bV.two;clear cn bV;go_wp2_with(fail);generalize cq:World.setCell _ _ _=Y;obtain⟨bD,bx,bJ⟩:=ef (M:=λb=>b=g) (w:=w) [.string (strOf t.text),.slice none 0 0] (by rfl) bZ.2.2 bZ.2.1 (Lz _) cq;have bF:=ah (bZ.1.on bJ λb O=>ad) bx;clear cq bx bJ bp aM aV;obtain⟨bp,aM,aV⟩:=bD.two;refine Mf (v:=.agg #[.string (strOf t.text),.slice none 0 0]) (by simp[results,Tryz.results125,go_sem,bp]) rfl ?_;exact⟨rfl,bF.1,bF.2⟩
 ):p:=h
end CO
open CO in
theorem w1(g:Nat)(A:Mk)(n c:Nat)(T:List Tok)(k deep:Nat)(w:World)(t:Tok)(h:bG w g A n c T k deep)(ht:T[k]?=some t)(bv:t.kind=1)(bg:b3 [91] T (k+1)=false)(aj:k+1<n) :
  Calls prog 125 #[.pointer (some ⟨g,0,none⟩)] w λe ab=>e=.returned (.agg #[.string (strOf t.text),.slice none 0 0])/\bG ab g A n c T (k+1) deep/\Fr (λb=>b=g) w ab:=by
 have H:=ae h;have bS:=aA ht bv bg;have cu:=h.blk.lt;clear h bv ht bg;go_enter func125,ntmps125;go_upto_region 1 with(fail);generalize bd:World.alloc _ _=W;have aF:=aZ bd;have cB:=aN bd;have ag:=aA (H.aj aF) aF cB;clear bd aF cB;go_wp2_with(fail);refine(m4 g A n c T k deep W t ag.1 bS.1 bS.2.1 aj).mono ?_;exact A0
theorem Gg(g:Nat)(A:Mk)(n c:Nat)(T:List Tok)(k deep:Nat)(w:World)(h:bG w g A n c T k deep)(ac:b3 [40] T k=true)(ax:b3 [41] T (k+1)=true)(aj:k+2<n) :
  Calls prog 124 #[.pointer (some ⟨g,0,none⟩)] w λe ab=>e=.returned (.slice none 0 0)/\bG ab g A n c T (k+2) deep/\Fr (λb=>b=g) w ab:=by
 have H:=ae h;have bS:=ah ac ax;clear h ac ax;go_enter func124,ntmps124;exact G6
theorem zo(g:Nat)(A:Mk)(n c:Nat)(T:List Tok)(k deep:Nat)(w:World)(h:bG w g A n c T k deep)(ac:b3 [40] T k=true)(ax:b3 [41] T (k+1)=true)(aj:k+2<n) :
  Calls prog 66 #[.pointer (some ⟨g,0,none⟩)] w λe ab=>e=.returned (.slice none 0 0)/\bG ab g A n c T (k+2) deep/\Fr (λb=>b=g) w ab:=by
 have H:=ae h;have bS:=ah ac ax;clear h ac ax;go_enter func66,ntmps66;exact G6
namespace CP
theorem A1(h:p:=by
 refine(show Calls prog 62 #[.pointer (some ⟨g,0,none⟩),.string ⟨#[91]⟩] X _ from cG [91] g A n c T (k+1) deep X aR.1 false bS.2.2.1 (λh=>by cases h)).mono ?_;rintro e aW ⟨rfl,be,hF⟩;have bZ:=bA (show bG aW g A n c T (k+1) deep from by simpa using be) (aR.2.1.trans hF) (aR.2.2.1.on hF ad) (aR.2.2.2.on hF ad);clear be hF aR;go_wp2_with(fail);refine(show Calls prog 106 #[.pointer (some ⟨g,0,none⟩),.string ⟨#[59]⟩] aW _ from kd [59] g A n c T (k+1) deep aW bZ.1 bS.2.2.2 ad).mono ?_;rintro e b4 ⟨rfl,be,hF⟩;have bV:=bZ.2.2.1.on hF ad;have cn:=bZ.2.2.2.on hF ad;have bY:=aA be (bZ.2.1.trans hF) bV;clear be hF bZ;obtain⟨d0,aK,aO⟩:=cn.two;obtain⟨bp,aM,aV⟩:=bV.two;clear cn bV;go_wp2_with(fail);generalize cq:World.setCell _ _ _=Y;obtain⟨bD,bx,bJ⟩:=ef (M:=λb=>b=g) (w:=w) [.string (strOf t.text),.bool false,.int .i64 0] (by rfl) bY.2.2 bY.2.1 (Lz _) cq;have bF:=ah (bY.1.on bJ λb O=>ad) bx;clear cq bx bJ bp aM aV;obtain⟨bp,aM,aV⟩:=bD.two;refine Mf (v:=.agg #[.string (strOf t.text),.bool false,.int .i64 0]) (by simp[results,Tryz.results64,go_sem,bp]) rfl ?_;exact⟨rfl,bF.1,bF.2⟩
 ):p:=h
end CP
open CP in
theorem ES(g:Nat)(A:Mk)(n c:Nat)(T:List Tok)(k deep:Nat)(w:World)(t:Tok)(h:bG w g A n c T k deep)(ht:T[k]?=some t)(bv:t.kind=1)(bg:b3 [91] T (k+1)=false)(ax:b3 [59] T (k+1)=true)(aj:k+2<n) :
  Calls prog 64 #[.pointer (some ⟨g,0,none⟩),.bool false] w λe ab=>e=.returned (.agg #[.string (strOf t.text),.bool false,.int .i64 0])/\bG ab g A n c T (k+2) deep/\Fr (λb=>b=g) w ab:=by
 have H:=ae h;have bS:=bA ht bv bg ax;have cu:=h.blk.lt;clear h bv ht bg ax;go_enter func64,ntmps64;go_upto_region 1 with(fail);generalize bd:World.alloc _ _=W;have aF:=aZ bd;have cB:=aN bd;have ag:=aA (H.aj aF) aF cB;clear bd aF cB;go_wp2_with(fail);refine(m4 g A n c T k deep W t ag.1 bS.1 bS.2.1 ad).mono ?_;exact A0
def En:Value->Nat
 | .slice _ n _=>n
 | _=>0
structure Fv(T:List Tok)(k:Nat)(r:List Tok):Prop where
 pos:0<r.length
 jf:r.length<=6
 mu:∀j,j<r.length->b3 [109,117,116,101,120] T (k+3*j)=true
 nm:∀j t,r[j]?=some t->T[k+3*j+1]?=some t/\t.kind=1
 co:∀j,j<r.length->b3 [44] T (k+3*j+2)=decide (j+1<r.length)
 cl:∀j,j+1=r.length->b3 [41] T (k+3*j+2)=true
def kx(t:Tok):ByteArray×Bool:=(strOf t.text,true)
theorem yW(s:ByteArray)(b:Bool):(cz (s,b)).rep w P [.string s,.bool b]:=by
 unfold cz;simp only[D.rep,D.aO]
 first|exact⟨_,rfl,_,rfl,rfl⟩|(simp;done)|skip
theorem Fr.cut{M:Nat->Prop}(h:Fr (λb=>M b\/w.heap.size<=b) w ab):Fr M w ab:=⟨h.os,h.tape,h.output,h.size,λk aj hn=>h.block k aj λhm=>hm.elim hn λh=>ad⟩
namespace C1
theorem AO(h:p:=by
 have hd:(cz (kx t)).rep Y (ly (λb=>w.heap.size<=b) Y (.slice D j l)) (#[.string (strOf t.text),.bool true]:Array Value).toList:=yW _ _;obtain⟨dQ,a3⟩:=aH hd bm;clear cq bJ bD I bm F Z bU aX a4 hd;go_wp2_with(at_builtin;refine bI DQ rfl (.tmp 33) (.tmp 35) rfl bF.2.2.1 (d:=cz (kx t)) (cs:=#[.string (strOf t.text),.bool true]) dQ.o rfl rfl rfl ad ad ad ?_;intro cD c3 cA ce g2 cN cZ;have ca:=aA ce g2 cZ;clear ce g2 cN cZ);have G:bG cA g A n c T (k+1+3*j+2) deep:=bF.1.on ca.2.1 λb O=>by have:=(a3.o b O).1;omega
 have i:Fr (λb=>b=g) w cA:=Fr.cut (Fr.trans bF.2.1 (ca.2.1.mono λb O=>.inr (a3.o b O).1));have x:Gr (λb=>w.heap.size<=b) w.heap.size 173 2 cA cD (j+1) c3 (((r.take (j+1)).map kx).map cz):=by
  exact Ar
 exact GV
 ):p:=h
theorem A8(h:p:=by
 have dp:((j:Int) == 6)=false:=by simp;omega
 clear be hF hG ht bm;go_wp2_with(fail);refine(show Calls prog 62 #[.pointer (some ⟨g,0,none⟩),.string ⟨#[109,117,116,101,120]⟩] wr _ from cG [109,117,116,101,120] g A n c T (k+1+3*j) deep wr a2.1 true (bS.2.2.mu j ad) (λ_=>ad)).mono ?_;rintro e b4 ⟨rfl,be,a5⟩;have bY:=ah (show bG b4 g A n c T (k+1+3*j+1) deep from by simpa using be) a5;have cF:=a5.size;clear be a5 cT cj J;go_upto_region 9 with(fail);generalize hX:World.alloc _ _=X;have bz:=aZ hX;have bC:=aN hX;have aR:=aA (bY.1.aj bz) bz bC;have M:=bC.lt;clear hX bz bC;go_wp2_with(fail);refine(m4 g A n c T (k+1+3*j+1) deep X t aR.1 (bS.2.2.nm j t a2.2.2.2.1).1 (bS.2.2.nm j t a2.2.2.2.1).2 ad).mono ?_;rintro e cI ⟨rfl,be,z⟩;have bQ:=aR.2.2.on z ad;have P:=aA (show bG cI g A n c T (k+1+3*j+2) deep from be) z bQ;have dm:=z.size;obtain⟨bU,aX,a4⟩:=bQ.two;clear be z bQ;go_upto_region 10 with(fail);generalize cq:World.setCell _ _ _=Y;have bJ:=cJ cq;have bD:ao Y b4.heap.size 173 #[.string (strOf t.text),.bool true]:=cq▸P.2.2.aJ 0 _;have bl:=bJ.size;have I:Fr (λb=>b=g\/b=b4.heap.size) wr Y:=Fr.trans (Fr.trans (Fr.trans (bY.2.mono λ_ h=>.inl h) (aR.2.1.mono λ_ h=>h.elim)) (P.2.1.mono λ_ h=>.inl h)) (bJ.mono λ_ h=>.inr h);exact AN
 ):p:=h
theorem AI(h:p:=by
 go_loopw [3] (λQ wr=>∃(j:Nat) (D:Mk) (l:Nat),Q=.slice D j l/\j<N/\bG wr g A n c T (k+1+3*j) deep/\Fr (λb=>b=g) w wr/\Gr (λb=>w.heap.size<=b) w.heap.size 173 2 wr D j l (((r.take j).map kx).map cz)) (λQ _=>N - En Q)
 case atStart=>exact⟨0,none,0,rfl,u,bZ.1,bZ.2,Gr.nil _ _ _ _ _⟩
 case round=>
  exact A7
 ):p:=h
end C1
open C1 in
theorem w0(g:Nat)(A:Mk)(n c:Nat)(T:List Tok)(k deep:Nat)(r:List Tok)(w:World)(h:bG w g A n c T k deep)(ac:b3 [40] T k=true)(ax:b3 [41] T (k+1)=false)(bw:Fv T (k+1) r)(aj:k+1+3*r.length<n) :
  Calls prog 66 #[.pointer (some ⟨g,0,none⟩)] w λe ab=>∃D m l,e=.returned (.slice D m l)/\m<=l/\bG ab g A n c T (k+1+3*r.length) deep/\Fr (λb=>b=g) w ab/\Sl ab (fresh w ab) D m ((r.map kx).map cz):=by
 have H:=ae h;have cu:=h.blk.lt;have u:=bw.pos;have L:=bw.jf;have bS:=aA ac ax bw;clear h ac ax bw;go_enter func66,ntmps66;exact AH
def kt(t:Tok):dj:=.mx ⟨strOf t.text,none⟩
theorem yK(t:Tok):(eO (kt t)).rep w P [.bool true,.string (strOf t.text),.slice none 0 0,.int .i64 0,.int .i64 0,.string ⟨#[]⟩,.slice none 0 0]:=by
 have h:=yn (w:=w) (P:=P) (r:=⟨strOf t.text,none⟩) (IA:=none) (i:=0) (ic:=0) (Sl.bT _) (Lz _);exact h
namespace C2
theorem AO(h:p:=by
 have hd:(eO (kt t)).rep Y (ly (λb=>w.heap.size<=b) Y (.slice D j l)) (#[.bool true,.string (strOf t.text),.slice none 0 0,.int .i64 0,.int .i64 0,.string ⟨#[]⟩,.slice none 0 0]:Array Value).toList:=yK t;obtain⟨dQ,a3⟩:=aH hd bm;clear cq bJ bD I bm F Z bU aX a4 hd;go_wp2_with(at_builtin;refine bI sQ rfl (.tmp 23) (.tmp 25) rfl bF.2.2.1 (d:=eO (kt t)) (cs:=#[.bool true,.string (strOf t.text),.slice none 0 0,.int .i64 0,.int .i64 0,.string ⟨#[]⟩,.slice none 0 0]) dQ.o rfl rfl rfl ad ad ad ?_;intro cD c3 cA ce g2 cN cZ;have ca:=aA ce g2 cZ;clear ce g2 cN cZ);have G:bG cA g A n c T (k+1+3*j+2) deep:=bF.1.on ca.2.1 λb O=>by have:=(a3.o b O).1;omega
 have i:Fr (λb=>b=g) w cA:=Fr.cut (Fr.trans bF.2.1 (ca.2.1.mono λb O=>.inr (a3.o b O).1));have x:Gr (λb=>w.heap.size<=b) w.heap.size 213 7 cA cD (j+1) c3 (((r.take (j+1)).map kt).map eO):=by
  exact Ar
 exact GV
 ):p:=h
theorem A8(h:p:=by
 have bg:b3 [91] T (k+1+3*j+1+1)=false:=by
  by_cases fm:j+1<N
  .exact fu (by rw[bS.2.2.co j ad];exact decide_eq_true ad) (by decide)
  .exact fu (bS.2.2.cl j ad) (by decide)
 have aT:=ae bg;clear be hF hG ht bm bg;go_upto_region 7 with(fail);generalize hX:World.alloc _ _=X;have bz:=aZ hX;have bC:=aN hX;have aR:=aA (a2.1.aj bz) bz bC;have M:=bC.lt;clear hX bz bC cT cj J;go_wp2_with(fail);refine(show Calls prog 62 #[.pointer (some ⟨g,0,none⟩),.string ⟨#[109,117,116,101,120]⟩] X _ from cG [109,117,116,101,120] g A n c T (k+1+3*j) deep X aR.1 true (bS.2.2.mu j ad) (λ_=>ad)).mono ?_;rintro e b4 ⟨rfl,be,a5⟩;have bY:=aA (show bG b4 g A n c T (k+1+3*j+1) deep from by simpa using be) a5 (aR.2.2.on a5 ad);have cF:=a5.size;clear be a5;go_wp2_with(fail);refine(w1 g A n c T (k+1+3*j+1) deep b4 t bY.1 (bS.2.2.nm j t a2.2.2.2.1).1 (bS.2.2.nm j t a2.2.2.2.1).2 aT.o ad).mono ?_;rintro e cI ⟨rfl,be,z⟩;have bQ:=bY.2.2.on z ad;have P:=aA (show bG cI g A n c T (k+1+3*j+2) deep from be) z bQ;have dm:=z.size;obtain⟨bU,aX,a4⟩:=bQ.two;clear be z bQ;go_upto_region 10 with(fail);generalize cq:World.setCell _ _ _=Y;obtain⟨bD,bJ⟩:=kO 0 [.bool true,.string (strOf t.text),.slice none 0 0,.int .i64 0,.int .i64 0,.string ⟨#[]⟩,.slice none 0 0] P.2.2 cq;have bD:ao Y wr.heap.size 213 #[.bool true,.string (strOf t.text),.slice none 0 0,.int .i64 0,.int .i64 0,.string ⟨#[]⟩,.slice none 0 0]:=bD;have bl:=bJ.size;have I:Fr (λb=>b=g\/b=wr.heap.size) wr Y:=Fr.trans (Fr.trans (Fr.trans (aR.2.1.mono λ_ h=>h.elim) (bY.2.1.mono λ_ h=>.inl h)) (P.2.1.mono λ_ h=>.inl h)) (bJ.mono λ_ h=>.inr h);exact AN
 ):p:=h
theorem AI(h:p:=by
 go_loopw [3] (λQ wr=>∃(j:Nat) (D:Mk) (l:Nat),Q=.slice D j l/\j<N/\bG wr g A n c T (k+1+3*j) deep/\Fr (λb=>b=g) w wr/\Gr (λb=>w.heap.size<=b) w.heap.size 213 7 wr D j l (((r.take j).map kt).map eO)) (λQ _=>N - En Q)
 case atStart=>exact⟨0,none,0,rfl,u,bZ.1,bZ.2,Gr.nil _ _ _ _ _⟩
 case round=>
  exact A7
 ):p:=h
end C2
open C2 in
theorem EP(g:Nat)(A:Mk)(n c:Nat)(T:List Tok)(k deep:Nat)(r:List Tok)(w:World)(h:bG w g A n c T k deep)(ac:b3 [40] T k=true)(ax:b3 [41] T (k+1)=false)(bw:Fv T (k+1) r)(aj:k+1+3*r.length<n) :
  Calls prog 124 #[.pointer (some ⟨g,0,none⟩)] w λe ab=>∃D m l,e=.returned (.slice D m l)/\m<=l/\bG ab g A n c T (k+1+3*r.length) deep/\Fr (λb=>b=g) w ab/\Sl ab (fresh w ab) D m ((r.map kt).map eO):=by
 have H:=ae h;have cu:=h.blk.lt;have u:=bw.pos;have L:=bw.jf;have bS:=aA ac ax bw;clear h ac ax bw;go_enter func124,ntmps124;exact AH
def yF(T:List Tok)(k:Nat)(r:List Tok):Prop:=b3 [40] T k=true/\((r=[]/\b3 [41] T (k+1)=true)\/(b3 [41] T (k+1)=false/\Fv T (k+1) r))
def eQ(k:Nat)(r:List Tok):Nat:=if r.length=0 then k+2 else k+1+3*r.length
theorem EO(g:Nat)(A:Mk)(n c:Nat)(T:List Tok)(k deep:Nat)(r:List Tok)(w:World)(h:bG w g A n c T k deep)(bw:yF T k r)(aj:eQ k r<n) :
  Calls prog 124 #[.pointer (some ⟨g,0,none⟩)] w λe ab=>∃D m l,e=.returned (.slice D m l)/\m<=l/\bG ab g A n c T (eQ k r) deep/\Fr (λb=>b=g) w ab/\Sl ab (fresh w ab) D m ((r.map kt).map eO):=by
 obtain⟨h0,bw|bw⟩:=bw
 .obtain⟨rfl,ac⟩:=bw;refine(Gg g A n c T k deep w h h0 ac aj).mono ?_;exact Ac
 .have hp:r.length≠0:=by have:=bw.2.pos;omega
  have he:eQ k r=k+1+3*r.length:=by unfold eQ;rw[if_neg hp]
  rw[he] at aj ⊢;exact EP g A n c T k deep r w h h0 bw.1 bw.2 aj
theorem wZ(g:Nat)(A:Mk)(n c:Nat)(T:List Tok)(k deep:Nat)(r:List Tok)(w:World)(h:bG w g A n c T k deep)(bw:yF T k r)(aj:eQ k r<n) :
  Calls prog 66 #[.pointer (some ⟨g,0,none⟩)] w λe ab=>∃D m l,e=.returned (.slice D m l)/\m<=l/\bG ab g A n c T (eQ k r) deep/\Fr (λb=>b=g) w ab/\Sl ab (fresh w ab) D m ((r.map kx).map cz):=by
 obtain⟨h0,bw|bw⟩:=bw
 .obtain⟨rfl,ac⟩:=bw;refine(zo g A n c T k deep w h h0 ac aj).mono ?_;exact Ac
 .have hp:r.length≠0:=by have:=bw.2.pos;omega
  have he:eQ k r=k+1+3*r.length:=by unfold eQ;rw[if_neg hp]
  rw[he] at aj ⊢;exact w0 g A n c T k deep r w h h0 bw.1 bw.2 aj
def Ew(T:List Tok):Nat->Nat->Option (List Tok)
 | 0,_=>none
 | f+1,k=>match T[k+1]? with
  | none=>none
  | some t=>
   if t.kind=1 then
    if b3 [109,117,116,101,120] T k then
     if b3 [44] T (k+2) then (Ew T f (k+3)).map (t::·) else if b3 [41] T (k+2) then some [t] else none
    else none
   else none
def wK(T:List Tok)(k:Nat):Option (List Tok):=if b3 [40] T k then (if b3 [41] T (k+1) then some [] else Ew T 6 (k+1)) else none
theorem Ex:∀(f k:Nat) (r:List Tok),f<=6->Ew T f k=some r->Fv T k r/\r.length<=f:=by
 intro f
 induction f with
 | zero=>intro k r _ h;cases h
 | succ f aq=>
  intro k r J h;simp only[Ew] at h;split at h
  .cases h
  .rename_i t ht;split at h
   .rename_i bv;split at h
    .rename_i hm;split at h
     .rename_i hc
      cases a9:Ew T f (k+3) with
      | none=>rw[a9] at h;cases h
      | some l=>
       rw[a9] at h;simp only[Option.map_some] at h;injection h with h;subst h;obtain⟨hl,hn⟩:=aq (k+3) l ad a9;have hp:=hl.pos;refine⟨⟨by simp,by simp;omega,?_,?_,?_,?_⟩,by simp;omega⟩
       .intro j bi
        cases j with
        | zero=>exact hm
        | succ j=>rw[show k+3*(j+1)=k+3+3*j by omega];exact hl.mu j (by simpa using bi)
       .intro j m i
        cases j with
        | zero=>injection i with i;subst i;exact⟨ht,bv⟩
        | succ j=>rw[show k+3*(j+1)=k+3+3*j by omega];exact hl.nm j m (by simpa using i)
       .intro j bi
        cases j with
        | zero=>rw[show k+3*0+2=k+2 by omega,hc];simp;omega
        | succ j=>rw[show k+3*(j+1)+2=k+3+3*j+2 by omega,hl.co j (by simpa using bi)];simp
       .intro j bi
        cases j with
        | zero=>simp only[LP] at bi;omega
        | succ j=>rw[show k+3*(j+1)+2=k+3+3*j+2 by omega];exact hl.cl j (by simpa using bi)
     .rename_i hc;split at h
      .rename_i a1;injection h with h;subst h;refine⟨⟨by simp,by simp,?_,?_,?_,?_⟩,by simp⟩
       .intro j bi;have:j=0:=by simp at bi;omega
        subst this;exact hm
       .intro j m i
        cases j with
        | zero=>injection i with i;subst i;exact⟨ht,bv⟩
        | succ j=>cases i
       .intro j bi;have:j=0:=by simp at bi;omega
        subst this;simpa using hc
       .intro j bi;have:j=0:=by simp at bi;omega
        subst this;exact a1
      .cases h
    .cases h
   .cases h
theorem uD{r:List Tok}(h:wK T k=some r):yF T k r:=by
 unfold wK at h;split at h
 .rename_i h0;split at h
  .rename_i ac;injection h with h;exact⟨h0,.inl ⟨h.symm,ac⟩⟩
  .rename_i ac;exact⟨h0,.inr ⟨by simpa using ac,(Ex 6 _ _ (Lz _) h).1⟩⟩
 .cases h
theorem yf(k:Nat)(r:List Tok):k+2<=eQ k r:=by
 unfold eQ;split<;>omega
def sk(k:Int)(n m:ByteArray):List Value:=[.int .i64 k,.string n,.int .i64 0,.int .i64 0,.string ⟨#[]⟩,.slice none 0 0,.string m,.slice none 0 0,.slice none 0 0,.slice none 0 0,.slice none 0 0]
def HF(n:ByteArray)(D:Mk)(m l:Nat):List Value:=[.int .i64 4,.string n,.int .i64 0,.int .i64 0,.string ⟨#[]⟩,.slice none 0 0,.string ⟨#[]⟩,.slice none 0 0,.slice D m l,.slice none 0 0,.slice none 0 0]
theorem Iv{n:ByteArray}{D:Mk}{m l:Nat}{aT:List dj}(h:Sl w P D m (aT.map eO))(hm:m<=l):(bg (.call true n aT)).rep w P (HF n D m l):=eG mz kZ h hm (Sl.bT _) (Lz _) (Sl.bT _) (Lz _)
theorem vi(u:Bool)(n:ByteArray):(bg (.lock u ⟨n,none⟩)).rep w P (sk (if u then 6 else 5) ⟨#[]⟩ n):=
 eG mz (jG.2 ⟨none,0,0,rfl,Lz _,Sl.bT _⟩) (Sl.bT _) (Lz _) (Sl.bT _) (Lz _) (Sl.bT _) (Lz _)
structure zQ(w ab:World)(g:Nat)(A:Mk)(n c:Nat)(T:List Tok)(k deep:Nat)(cs:List Value):Prop where
 ps:bG ab g A n c T k deep
 fr:Fr (λb=>b=g) w ab
 r:ao ab w.heap.size 188 #[.int .i64 0,.string ⟨#[]⟩,.int .i64 0,.int .i64 0,.string ⟨#[]⟩,.slice none 0 0,.string ⟨#[]⟩,.slice none 0 0,.slice none 0 0,.slice none 0 0,.slice none 0 0]
 s:ao ab (w.heap.size+1) 188 cs.toArray
theorem zQ.on{w ab aW:World}{g:Nat}{A:Mk}{n c:Nat}{T:List Tok}{k F deep:Nat}{cs:List Value}(h:zQ w ab g A n c T k deep cs)(aY:g<w.heap.size)(hp:bG aW g A n c T F deep)(J:Fr (λb=>b=g) ab aW):zQ w aW g A n c T F deep cs:=
 ⟨hp,h.fr.trans J,h.r.on J ad,h.s.on J ad⟩
theorem zQ.set{aW:World}{g:Nat}{A:Mk}{n c:Nat}{deep:Nat}{cs f:List Value}(h:zQ w ab g A n c T k deep cs)(aY:g<w.heap.size)(J:Fr (λb=>b=w.heap.size+1) ab aW)(hs:ao aW (w.heap.size+1) 188 f.toArray):zQ w aW g A n c T k deep f:=
 ⟨h.ps.on J λb O=>ad,h.fr.eU (J.below h.fr.size λk aj hm=>ad),h.r.on J ad,hs⟩
namespace C3
theorem vP(h:p:=by
 refine(show Calls prog 62 #[.pointer (some ⟨g,0,none⟩),.string ⟨#[103,111]⟩] aP _ from cG [103,111] g A n c T k deep aP H1.ps true (by first|exact bS.1|exact fu bS.1 (by decide)) (λh=>by first|omega|cases h)).mono ?_;rintro e aW ⟨rfl,be,hF⟩;have bZ:=ae (H1.on cu (show bG aW g A n c T (k+1) deep from by simpa using be) hF);clear be hF;clear H1;obtain⟨d0,aK,aO⟩:=bZ.s.two;clear d0 aK aO;go_wp2_with(fail);refine(m4 g A n c T (k+1) deep aW t bZ.ps bS.2.1 bS.2.2.1 ad).mono ?_;rintro e i ⟨rfl,be,hF⟩;have HA:=ae (bZ.on cu be hF);clear be hF bZ;obtain⟨d0,aK,aO⟩:=HA.s.two;simp only[sk] at d0;go_upto_region 15 with(fail);generalize hX:World.setCell _ _ _=X;have aR:Mm (zQ w X g A n c T (k+1+1) deep (sk 4 (strOf t.text) ⟨#[]⟩)):=by
  refine ae (HA.set cu (by rw[<-hX];exact((Fr.refl (λb=>b=w.heap.size+1) i).setCell (.inl rfl) _).setCell (.inl rfl) _) ?_);rw[<-hX];exact(HA.s.aJ 0 (.int .i64 4)).aJ 1 (.string (strOf t.text))
 clear hX d0 aK aO HA;go_wp2_with(fail);refine(EO g A n c T (k+1+1) deep r X aR.ps bS.2.2.2.1 (show eQ (k+2) r<n by omega)).mono ?_;rintro e wb ⟨D,m,l,rfl,hm,be,hF,bw⟩;have cx:w.heap.size+1<X.heap.size:=aR.s.lt;have bH:=aA (aR.on cu be hF) hm (bw.mono (cW:=λb=>w.heap.size+1<b/\b<wb.heap.size) λb O=>⟨by have:=O.1;omega,O.2⟩);clear be hF aR hm bw cx;obtain⟨d0,aK,aO⟩:=bH.1.s.two;simp only[sk] at d0;go_upto_region 16 with(fail);generalize hX:World.setCell _ _ _=Y;have ar:=cJ hX;have bF:Mm (zQ w Y g A n c T (eQ (k+2) r) deep (HF (strOf t.text) D m l)/\m<=l/\Sl Y (λb=>w.heap.size+1<b/\b<Y.heap.size) D m ((r.map kt).map eO)):=by
  refine ae ⟨bH.1.set cu ar ?_,bH.2.1,?_⟩
  .rw[<-hX];exact bH.1.s.aJ 8 (.slice D m l)
  .exact(bH.2.2.ak λb O=>ar.block b O.2 (aB O.1)).mono λb O=>⟨O.1,by have:=O.2;have:=ar.size;omega⟩
 clear hX d0 aK aO bH ar;go_wp2_with(fail);refine(show Calls prog 106 #[.pointer (some ⟨g,0,none⟩),.string ⟨#[59]⟩] Y _ from kd [59] g A n c T (eQ (k+2) r) deep Y bF.1.ps bS.2.2.2.2 aj).mono ?_;rintro e cg ⟨rfl,be,hF⟩;have bh:=aA (bF.1.on cu be hF) bF.2.1 ((bF.2.2.ak λb O=>hF.block b O.2 (aB O.1)).mono (cW:=λb=>w.heap.size+1<b/\b<cg.heap.size) λb O=>⟨O.1,by have:=O.2;have:=hF.size;omega⟩);clear be hF bF;obtain⟨d0,aK,aO⟩:=bh.1.s.two;obtain⟨bp,aM,aV⟩:=bh.1.r.two;simp only[HF] at d0;go_wp2_with(fail);generalize hX:World.setCell _ _ _=V;obtain⟨b5,bo,f⟩:=ef (M:=λb=>b=g) (w:=w) (HF (strOf t.text) D m l) (by rfl) bh.1.r bh.1.fr (Lz _) hX;have cc:=bA (bh.1.ps.on f λb O=>ad) bo bh.2.1 ((bh.2.2.ak λb O=>f.block b O.2 (aB O.1)).mono (cW:=fresh w V) λb O=>⟨by have:=O.1;omega,by have:=O.2;have:=f.size;omega⟩);clear hX bo f bp aM aV d0 aK aO;obtain⟨bp,aM,aV⟩:=b5.two;simp only[HF] at bp;refine Mf (v:=.agg (HF (strOf t.text) D m l).toArray) (by simp[results,Tryz.results107,go_sem,bp,HF]) rfl ?_;exact⟨D,m,l,rfl,cc.2.2.1,cc.2.2.2,cc.1,cc.2.1⟩
 ):p:=h
end C3
open C3 in
theorem JC(g:Nat)(A:Mk)(n c:Nat)(T:List Tok)(k deep:Nat)(w:World)(t:Tok)(h:bG w g A n c T k deep)(ac:b3 [103,111] T k=true)(ht:T[k+1]?=some t)(bv:t.kind=1)(r:List Tok)(ax:yF T (k+2) r)(aU:b3 [59] T (eQ (k+2) r)=true)(aj:eQ (k+2) r+1<n) :
  Calls prog 107 #[.pointer (some ⟨g,0,none⟩)] w λe ab=>∃D m l,e=.returned (.agg (HF (strOf t.text) D m l).toArray)/\m<=l/\Sl ab (fresh w ab) D m ((r.map kt).map eO)/\bG ab g A n c T (eQ (k+2) r+1) deep/\Fr (λb=>b=g) w ab:=by
 have H:=ae h;have bS:=cX ac ht bv ax aU;have cu:=h.blk.lt;have he:k+4<=eQ (k+2) r:=by unfold eQ;split<;>omega
 clear h ac ht bv ax aU;exact vO
namespace C4
theorem AS(h:p:=by
 obtain⟨b5,bo,f⟩:=ef (M:=λb=>b=g) (w:=w) (sk 5 ⟨#[]⟩ (strOf t.text)) (by rfl) bh.r bh.fr (Lz _) hX;have cc:=ah (bh.ps.on f λb O=>ad) bo;clear hX bo f bp aM aV d0 aK aO;obtain⟨bp,aM,aV⟩:=b5.two;simp only[sk] at bp;refine Mf (v:=.agg (sk 5 ⟨#[]⟩ (strOf t.text)).toArray) (by simp[results,Tryz.results107,go_sem,bp,sk]) rfl ?_;exact⟨rfl,cc.1,cc.2⟩
 ):p:=h
theorem AZ(h:p:=by
 refine(show Calls prog 62 #[.pointer (some ⟨g,0,none⟩),.string ⟨#[108,111,99,107]⟩] aW _ from cG [108,111,99,107] g A n c T k deep aW bZ.ps true (by first|exact bS.1|exact fu bS.1 (by decide)) (λh=>by first|omega|cases h)).mono ?_;rintro e b4 ⟨rfl,be,hF⟩;have bY:=ae (bZ.on cu (show bG b4 g A n c T (k+1) deep from by simpa using be) hF);clear be hF;clear bZ;go_wp2_with(fail);refine(w1 g A n c T (k+1) deep b4 t bY.ps bS.2.1 bS.2.2.1 bS.2.2.2.1 ad).mono ?_;rintro e i ⟨rfl,be,hF⟩;have HA:=ae (bY.on cu be hF);clear be hF bY;obtain⟨d0,aK,aO⟩:=HA.s.two;simp only[sk] at d0;go_upto_region 19 with(fail);generalize hX:World.setCell _ _ _=X;have aR:Mm (zQ w X g A n c T (k+1+1) deep (sk 5 ⟨#[]⟩ (strOf t.text))):=by
  refine ae (HA.set cu (by rw[<-hX];exact(((Fr.refl (λb=>b=w.heap.size+1) i).setCell (.inl rfl) _).setCell (.inl rfl) _).setCell (.inl rfl) _) ?_);rw[<-hX];exact((HA.s.aJ 0 (.int .i64 5)).aJ 6 (.string (strOf t.text))).aJ 7 (.slice none 0 0)
 exact AR
 ):p:=h
theorem vP(h:p:=by
 exact AY
 ):p:=h
end C4
open C4 in
theorem Gh(g:Nat)(A:Mk)(n c:Nat)(T:List Tok)(k deep:Nat)(w:World)(t:Tok)(h:bG w g A n c T k deep)(ac:b3 [108,111,99,107] T k=true)(ht:T[k+1]?=some t)(bv:t.kind=1)(bg:b3 [91] T (k+2)=false)(ax:b3 [59] T (k+2)=true)(aj:k+3<n) :
  Calls prog 107 #[.pointer (some ⟨g,0,none⟩)] w λe ab=>e=.returned (.agg (sk 5 ⟨#[]⟩ (strOf t.text)).toArray)/\bG ab g A n c T (k+3) deep/\Fr (λb=>b=g) w ab:=by
 have H:=ae h;have bS:=cX ac ht bv bg ax;have cu:=h.blk.lt;clear h ac ht bv bg ax;exact vO
namespace C5
theorem AS(h:p:=by
 obtain⟨b5,bo,f⟩:=ef (M:=λb=>b=g) (w:=w) (sk 6 ⟨#[]⟩ (strOf t.text)) (by rfl) bh.r bh.fr (Lz _) hX;have cc:=ah (bh.ps.on f λb O=>ad) bo;clear hX bo f bp aM aV d0 aK aO;obtain⟨bp,aM,aV⟩:=b5.two;simp only[sk] at bp;refine Mf (v:=.agg (sk 6 ⟨#[]⟩ (strOf t.text)).toArray) (by simp[results,Tryz.results107,go_sem,bp,sk]) rfl ?_;exact⟨rfl,cc.1,cc.2⟩
 ):p:=h
theorem AZ(h:p:=by
 refine(show Calls prog 62 #[.pointer (some ⟨g,0,none⟩),.string ⟨#[108,111,99,107]⟩] aW _ from cG [108,111,99,107] g A n c T k deep aW bZ.ps false (by first|exact bS.1|exact fu bS.1 (by decide)) (λh=>by first|omega|cases h)).mono ?_;rintro e b4 ⟨rfl,be,hF⟩;have bY:=ae (bZ.on cu (show bG b4 g A n c T (k) deep from by simpa using be) hF);clear be hF;clear bZ;go_wp2_with(fail);refine(show Calls prog 62 #[.pointer (some ⟨g,0,none⟩),.string ⟨#[117,110,108,111,99,107]⟩] b4 _ from cG [117,110,108,111,99,107] g A n c T k deep b4 bY.ps true (by first|exact bS.1|exact fu bS.1 (by decide)) (λh=>by first|omega|cases h)).mono ?_;rintro e cI ⟨rfl,be,hF⟩;have P:=ae (bY.on cu (show bG cI g A n c T (k+1) deep from by simpa using be) hF);clear be hF;clear bY;go_wp2_with(fail);refine(w1 g A n c T (k+1) deep cI t P.ps bS.2.1 bS.2.2.1 bS.2.2.2.1 ad).mono ?_;rintro e i ⟨rfl,be,hF⟩;have HA:=ae (P.on cu be hF);clear be hF P;obtain⟨d0,aK,aO⟩:=HA.s.two;simp only[sk] at d0;go_upto_region 22 with(fail);generalize hX:World.setCell _ _ _=X;have aR:Mm (zQ w X g A n c T (k+1+1) deep (sk 6 ⟨#[]⟩ (strOf t.text))):=by
  refine ae (HA.set cu (by rw[<-hX];exact(((Fr.refl (λb=>b=w.heap.size+1) i).setCell (.inl rfl) _).setCell (.inl rfl) _).setCell (.inl rfl) _) ?_);rw[<-hX];exact((HA.s.aJ 0 (.int .i64 6)).aJ 6 (.string (strOf t.text))).aJ 7 (.slice none 0 0)
 exact AR
 ):p:=h
theorem vP(h:p:=by
 exact AY
 ):p:=h
end C5
open C5 in
theorem zp(g:Nat)(A:Mk)(n c:Nat)(T:List Tok)(k deep:Nat)(w:World)(t:Tok)(h:bG w g A n c T k deep)(ac:b3 [117,110,108,111,99,107] T k=true)(ht:T[k+1]?=some t)(bv:t.kind=1)(bg:b3 [91] T (k+2)=false)(ax:b3 [59] T (k+2)=true)(aj:k+3<n) :
  Calls prog 107 #[.pointer (some ⟨g,0,none⟩)] w λe ab=>e=.returned (.agg (sk 6 ⟨#[]⟩ (strOf t.text)).toArray)/\bG ab g A n c T (k+3) deep/\Fr (λb=>b=g) w ab:=by
 have H:=ae h;have bS:=cX ac ht bv bg ax;have cu:=h.blk.lt;clear h ac ht bv bg ax;exact vO
end Go.Proofs.YtflecliffjbleaaGreat

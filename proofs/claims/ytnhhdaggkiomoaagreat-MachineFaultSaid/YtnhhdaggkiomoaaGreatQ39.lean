/- Part 39 of the proof. No condition of its own. -/
import Derived.Test.YtnhhdaggkiomoaaGreatQ38
namespace Go.Proofs.YtnhhdaggkiomoaaGreat
open Go.RowKit Go.Proofs.Tryz
set_option maxRecDepth 1000000
set_option maxHeartbeats 25600000
set_option linter.unusedVariables false
variable{T:List Tok}{F k:Nat}{P:Nat→Prop}{p:Prop}{w:World}
namespace CK
theorem dC(h:p:=by
 try simp only[KY]
 generalize hX:World.setCell _ _ _=X;have aQ:=ae (hX▸bm.o);clear hX bm e0 e1 e2 bf eX R y;go_wp2_with(fail);go_roundw
 case rel=>exact⟨i+1,a6,F.set i {f with body:=.eM ls},by go_num,ad,aQ.o⟩
 case measure=>exact aH
 ):p:=h
end CK
open CK in
theorem Jr(S:World)(gQ:Value)(bJ bD:Act→World→Prop)(ac:∀a ab,Code.wp prog (nw 32) (Exit.then bD (bodyPost prog Tryz.f31 (kb S))) a ab→bJ a ab)(av:∀a ab,Code.wp prog (GM 42) (bodyPost prog Tryz.f31 (kb S)) a ab→bD a ab) :
  ET S gQ (Exit.then bD (bodyPost prog Tryz.f31 (kb S))) bJ:=by
 unfold ET;intro u A n c l ar MA mn mc M GA gn gc G au ba FA fn fc F hs hu gK gO u8 gL eO go gp cc bR bS u16 gq gr eR eS eT eU eV eW eY eZ e3 e6 e7 e8 e9 u32 fa fb fd fe ff fh fi fk fl fm fo fp fq fr fs ft fv fw fx fy fz fA fB fC fD fE fF fG fH fI fJ u64 fK fL fM fN fO fP fQ fR fS fT fU fV fW fX fY fZ f3 f4 f5 f6 f7 f8 f9 ga gb gd ge gf gg gh gi gj gk gl gm H I am aF aL aM aN aU a1 a8 bb be bj bo br bt bA bF bG bL bM bW bZ b1 b2 b8 ca cb ce cj cn co cw cy cz cA cD cE cF cG cH cJ cM cO cP cQ cS cT cU cV cW cX cY cZ c4 c5 c6 c7 c8 c9 da db dc dd de df dg dh di dj dk dl dm dn dp dr dt du dv dw dx dy dA dB dD dE dF dG dH dJ dK dM dQ dR dS dT dV dW dX dY dZ d0 d1 d2 d3 d4 d5 d6 d7 d8 d9 ea eb ec ed ee ef eg eh ei ej ek el em en eo ep eq er es et eu ev ew ex ey ez eA eB eC eD eE eF eG eH eI eJ eL eM gu gv gw gx gy gz gA gB gC gD gE gG gH gI gJ w aC aZ;obtain⟨fg,rfl,a4⟩:=aZ.Jr aC;have bg:=ae a4;clear aZ a4;conv=>arg 2;whnf
 conv at ac=>enter [a,w,1,2];whnf
 conv at av=>enter [a,w,1,2];whnf
 go_wp2_with(fail);go_loopw [16] (fun cu wr=>∃(i L:Nat) (F:List aK),cu=.int .i64 i∧i≤fn∧oC S u A n c l ar MA mn mc M GA gn gc G au ba fg fn fc wr F i L) (fun cu _=>fn - (intOf cu).toNat)
 case atStart=>exact⟨0,24,F,rfl,ad,bg.o⟩
 case round=>
  obtain⟨i,L,F,rfl,an,aZ⟩:=hrel;obtain⟨cN,rfl⟩:∃cN,cN=wr:=⟨wr,rfl⟩
  clear bg;have ck:=ae aZ;obtain⟨a0,ai,af⟩:=aZ.blk.two;have b3:=aZ.hD;have N:=aZ.own;clear aZ;by_cases ak:i<fn
  ·have gN:(i:Int)<(fn:Int):=ad;have f1:(0:Int)≤(i:Int):=ad;obtain⟨f,QA,cq,qc,cf,bn,bc,J,bs,f0,dI,E⟩:=ck.Io ak;have bY:=aB J dI E;have t:f.params.length=cq:=by have:=dI.1;simpa using this
   clear J dI E;have aj:=ae ck.len.2.2;have bk:Gr (fun _=>False) cN.heap.size 9 1 (cN.alloc (.cells #[] 9)) (some ⟨cN.heap.size,0,none⟩) 0 0 []:=Gr.lit (w:=cN) (n:=0) (l:=[]) rfl (by rfl) ad (by simp only[D.aQ]);have m:Ext cN (cN.alloc (.cells #[] 9)):=Lo.alloc _;have ay:Src (cN.alloc (.cells #[] 9)) 1 au gn ((G.map (·.1)).map Value.string):=uL (ck.ai m).vs;have g:au=none→gn=0:=fun h=>by subst h;exact Sl.none_ ck.vs
   have b0:cN.heap.size≤(cN.alloc (.cells #[] 9)).heap.size:=by simp
   have a9:=ck.ng;have bU:=ck.nf.2;go_upto_region 36 with(at_builtin;go_loud (refine qI kr rfl (.tmp 194) (.tmp 195) rfl bk (nD (G.map (·.1))) (by rw[KK,KK];exact aj.o) ay g rfl rfl ad ad b0 ?_);intro cC c3 b6 ds ao bw U;have bd:=ag ds ao;clear ds ao bw U);have a7:Ext cN b6:=m.eN (bd.2.below (by simp) fun k ap h=>by
    simp[Value.ownBlock] at h;omega)
   have ds:=bd.1;simp only[KY,Lh] at ds;have bT:=ag a7 ds;clear a7 ds bd bk m ay g b0 a0 ai af
   try simp only[KY]
   go_wp2_with(fail);go_loopw [17,18] (fun aV cI wr=>∃(j:Nat) (bq:Ls) (on b7:Nat),aV=.slice bq on b7∧cI=.int .i64 j∧j≤cq∧Ext cN wr∧Gr (fun _=>False) cN.heap.size 9 1 wr bq on b7 ((G.map (·.1)++ct (f.params.take j)).map D.s)) (fun _ cI _=>cq - (intOf cI).toNat)
   case atStart=>exact⟨0,cC,gn,c3,rfl,rfl,ad,bT.1,by simpa[ct] using bT.2⟩
   case round=>
    obtain⟨j,bq,on,b7,rfl,rfl,bi,aw,hG⟩:=hrel;clear bT;have Q:on=(G.map (·.1)).length+(ct (f.params.take j)).length:=by have:=hG.len;simpa using this.symm
    have bV:on≤4:=by
     have cm:=sN (f.params.take j);have aY:=aj.o;rw[List.length_take] at cm;rw[KK] at Q;omega
    have aW:=bH (ck.ai aw) aw hG (bY.2.2.ak (aw.block fg N.2 (fun h=>h)));obtain⟨aa,bK⟩:=aI t Q;have ah:=aw.size;clear aw hG t Q;obtain⟨a0,ai,af⟩:=aW.1.blk.two;obtain⟨e0,e1,e2⟩:=aW.2.2.2;by_cases dq:j<cq
    ·have cK:(j:Int)<(cq:Int):=ad;have cl:(0:Int)≤(j:Int):=ad;obtain⟨pb,fu,q,cs,bN,eN,hm,a5,bp,hc⟩:=Sl.gZ (z:=2) (bY.2.1.ak fun b O=>aW.2.1.block b O.2 (fun h=>h)) (fun _=>rfl) dq;obtain rfl:=s4.1 a5;subst bN;have c0:=hc 0 _ rfl;have c1:=hc 1 _ rfl;simp only[KQ] at c0 c1;have cR:=ae hm;clear a5 hc bp hm eN;obtain⟨q1,cB⟩:=q;simp only at c0 c1;have aS:=qZ cR.o
     cases cB with
     | true=>
      go_wp2_with(fail);go_roundw
      case rel=>exact⟨j+1,bq,on,b7,rfl,by go_num,ad,aW.2.1,by rw[aS];simpa using aW.2.2.1⟩
      case measure=>exact aH
     | false=>
      have hd:(D.s q1).rep wr (lv (fun _=>False) wr (.slice bq on b7)) [.string q1]:=by simp only[D.rep]
      have cx:=ae hd;clear hd;go_wp2_with(at_builtin;refine bQ kr rfl (.tmp 225) (.tmp 239) rfl aW.2.2.1 cx.o rfl rfl rfl ad ad ah ?_;intro aX e4 b6 bB az al b9;have b4:=ag bB az;clear bB az al b9);have bv:∀b,(Value.slice bq on b7).ownBlock=some b→cN.heap.size≤b:=fun b O=>(aW.2.2.1.lt O).1;have a3:Ext cN b6:=aW.2.1.eN (b4.2.below ah fun k ap h=>by have:=bv k h;omega);have bx:=ae a3;clear bv a3;go_roundw
      case rel=>exact⟨j+1,aX,on+1,e4,rfl,by go_num,ad,bx.o,by rw[aS];simpa[KN,←List.append_assoc] using b4.1⟩
      case measure=>exact aH
    ·obtain rfl:j=cq:=ad;have dL:f.params.take j=f.params:=KO (aD aa.o);have r:=aW.1.ai Lo.drew;have R:=aW.2.2.2.ak (ab:=wr.drew) rfl;have W:=aW.2.2.1.ai Lo.drew;rw[dL] at W;have y:=r.blk;have a2:=r.own;have cg:(G.map (·.1)++ct f.params).length+L≤60:=by
      have cm:=bK.o;rw[dL] at cm;have aY:=r.kB;rw[KI];omega
     have Z:=r.lr.free (f:=f) (KJ bY.1);have aP:=r.kB;have cx:=bH r W cg Z;clear r W cg Z dL;go_upto_region 41 with(fail);clear e0 e1 e2 a0 ai af;refine kL (RW (S.heap.size+1) (.pointer (some ⟨S.heap.size+1,0,none⟩)) (.slice GA gn gc) (.slice MA mn mc) (.slice (some ⟨fg,0,none⟩) fn fc) (.bool ar)) [(0,3),(1,3),(2,3),(3,3),(4,0),(5,3),(6,3),(7,3),(8,3),(9,3),(10,3),(11,0),(12,3),(13,3),(14,0),(15,3),(16,1),(17,3),(18,3),(19,2)] (by kernel_rfl) (by kernel_rfl) (fun w=>RW.refl w) (fun _ _ _ h k=>h.trans k) (fun _ _ d _ _ h=>by cases d<;>exact h) ?_
     iterate 4 refine pf ?_
     refine bP (v:=?_) rfl (by rfl) (fun V hV=>?_) ?_;rotate_left
     ·obtain⟨bX,b5⟩:=hV.wb _ y;obtain⟨hVc,hVf,cg⟩:=b5.two
      (go_simp<;>with_reducible rfl)
     try simp only[PU]
     iterate 6 refine pf ?_
     refine bP (v:=?_) rfl (by rfl) (fun V hV=>?_) ?_;rotate_left
     ·obtain⟨bX,b5⟩:=hV.wb _ y;obtain⟨hVc,hVf,cg⟩:=b5.two
      (go_simp<;>with_reducible rfl)
     try simp only[PU]
     iterate 2 refine pf ?_
     refine bP (v:=?_) rfl (by rfl) (fun V hV=>?_) ?_;rotate_left
     ·obtain⟨e0,e1,e2⟩:=R.ak (hV.fr.block fg a2.2 ad)
      (go_simp<;>with_reducible rfl)
     try simp only[PU]
     refine pf ?_;refine aJ rfl (fun K hK=>?_);go_simp;refine(EE ⟨S.heap.size+1,S.heap.size+1+1,A,n,c,l,GA,gn,gc,MA,mn,mc,some ⟨fg,0,none⟩,fn,fc,M,F,ar⟩ L (G.map (·.1)++ct f.params) (bh ⟨G,M,F⟩++f.params.map (·.1)) bq on b7 f.name f.params QA j qc (.slice cf bn bc) wr.drew cx.1.wr (cx.2.1.sl (fun b _ h=>h.elim) (fun b O aR=>⟨O,fun hm=>by rcases hm with hm|hm<;>(simp only at hm;omega)⟩)) cx.2.2.1 (fun k ap=>cx.2.2.2 k ad) ((bY.2.1.ak fun b O=>(aW.2.1.trans Lo.drew).block b O.2 (fun h=>h)).mono fun b O=>⟨by have:=O.2;have:=ah;show b<wr.heap.size;omega,fun hm=>by have:=O.1;rcases hm with hm|hm<;>(simp only at hm;omega)⟩) bs).mono ?_;rintro e aT ⟨ls,a6,cp,ch,cd,rfl,ci,b9,bO,aG,P⟩;have o:¬(fg=S.heap.size+1∨fg=S.heap.size+1+1):=ad;have aq:=o;obtain⟨cur,s⟩:=cx.1.fs.I3;have bf:=(s.on P o).frozen;have eX:=(s.on P o).lt;obtain⟨e0,e1,e2⟩:=R.ak (P.block fg a2.2 o);have bm:=ae (cx.1.body bY.1 aG P ci b9 bO);refine dz hK (⟨P,fun _ _=>⟨a6,aG.blk⟩⟩) ?_;clear hK K;clear ci b9 bO aG P s o aq
     iterate 2 refine pf ?_
     exact eP
  ·have gN:¬(i:Int)<(fn:Int):=ad;have T:i=fn:=ad;have bu:=ae T;clear T;have e5:=ck.res;obtain⟨bl,aA,aO⟩:=e5.two;clear e5;go_wp2_with(fail);generalize cr:World.setCell _ _ _=Y;have aZ:=ck.o;rw[bu.o] at aZ;obtain⟨bI,bE,bz⟩:=dU (M:=fun _=>False) [.slice GA gn gc,.slice MA mn mc,.slice (some ⟨fg,0,none⟩) fn fc] (by rfl) aZ.res (w:=S) aZ.ext (KG _) cr;have bC:=ae (aZ.Jv bz);clear bl aA aO cr aZ bz a0 ai af;obtain⟨bl,aA,aO⟩:=bI.two;refine Ln (v:=.agg #[.slice GA gn gc,.slice MA mn mc,.slice (some ⟨fg,0,none⟩) fn fc]) (by simp[results,Tryz.results31,go_sem,bl]) rfl ?_;exact bC.o
namespace Bv
theorem Af(h:p:=by
 refine(show Calls prog 122 #[.pointer (some ⟨g,0,none⟩),.string ⟨#[91]⟩] X _ from dx [91] g A n c T (k+1) deep X aQ.1 false bY.2.2 (fun h=>by cases h)).mono ?_;rintro e aT ⟨rfl,aZ,hF⟩;have bs:=aQ.2.2.1.on hF ad;have cE:=aQ.2.2.2.on hF ad;have bG:=aB (show cj aT g A n c T (k+1) deep from by simpa using aZ) (aQ.2.1.trans hF) bs;clear aZ hF aQ;obtain⟨d0,aL,aM⟩:=cE.two;obtain⟨bl,aA,aO⟩:=bs.two;clear cE bs;go_wp2_with(fail);generalize cr:World.setCell _ _ _=Y;obtain⟨bI,bE,bz⟩:=dU (M:=fun b=>b=g) (w:=w) [.string (strOf t.text),.slice none 0 0] (by rfl) bG.2.2 bG.2.1 (KG _) cr;have bC:=ag (bG.1.on bz fun b O=>ad) bE;clear cr bE bz bl aA aO;obtain⟨bl,aA,aO⟩:=bI.two;refine Ln (v:=.agg #[.string (strOf t.text),.slice none 0 0]) (by simp[results,Tryz.results165,go_sem,bl]) rfl ?_;exact⟨rfl,bC.1,bC.2⟩
 ):p:=h
end Bv
open Bv in
theorem Ed(g:Nat)(A:Ls)(n c:Nat)(T:List Tok)(k deep:Nat)(w:World)(t:Tok)(h:cj w g A n c T k deep)(ht:T[k]?=some t)(bK:t.kind=1)(bR:cz [91] T (k+1)=false)(ap:k+1<n) :
  Calls prog 165 #[.pointer (some ⟨g,0,none⟩)] w fun e ab=>e=.returned (.agg #[.string (strOf t.text),.slice none 0 0])∧cj ab g A n c T (k+1) deep∧Fr (fun b=>b=g) w ab:=by
 have H:=ae h;have bY:=aB ht bK bR;have ci:=h.blk.lt;clear h bK ht bR;go_enter func165,ntmps165;go_upto_region 1 with(fail);generalize ba:World.alloc _ _=W;have aw:=aU ba;have cA:=aG ba;have ah:=aB (H.ai aw) aw cA;clear ba aw cA;go_wp2_with(fail);refine(oS g A n c T k deep W t ah.1 bY.1 bY.2.1 ap).mono ?_;exact Ae
theorem Fx(g:Nat)(A:Ls)(n c:Nat)(T:List Tok)(k deep:Nat)(w:World)(h:cj w g A n c T k deep)(ac:cz [40] T k=true)(av:cz [41] T (k+1)=true)(ap:k+2<n) :
  Calls prog 164 #[.pointer (some ⟨g,0,none⟩)] w fun e ab=>e=.returned (.slice none 0 0)∧cj ab g A n c T (k+2) deep∧Fr (fun b=>b=g) w ab:=by
 have H:=ae h;have bY:=ag ac av;clear h ac av;go_enter func164,ntmps164;exact Gg
theorem yE(g:Nat)(A:Ls)(n c:Nat)(T:List Tok)(k deep:Nat)(w:World)(h:cj w g A n c T k deep)(ac:cz [40] T k=true)(av:cz [41] T (k+1)=true)(ap:k+2<n) :
  Calls prog 126 #[.pointer (some ⟨g,0,none⟩)] w fun e ab=>e=.returned (.slice none 0 0)∧cj ab g A n c T (k+2) deep∧Fr (fun b=>b=g) w ab:=by
 have H:=ae h;have bY:=ag ac av;clear h ac av;go_enter func126,ntmps126;exact Gg
namespace Bw
theorem Af(h:p:=by
 refine(show Calls prog 122 #[.pointer (some ⟨g,0,none⟩),.string ⟨#[91]⟩] X _ from dx [91] g A n c T (k+1) deep X aQ.1 false bY.2.2.1 (fun h=>by cases h)).mono ?_;rintro e aT ⟨rfl,aZ,hF⟩;have bG:=bH (show cj aT g A n c T (k+1) deep from by simpa using aZ) (aQ.2.1.trans hF) (aQ.2.2.1.on hF ad) (aQ.2.2.2.on hF ad);clear aZ hF aQ;go_wp2_with(fail);refine(show Calls prog 150 #[.pointer (some ⟨g,0,none⟩),.string ⟨#[59]⟩] aT _ from mL [59] g A n c T (k+1) deep aT bG.1 bY.2.2.2 ad).mono ?_;rintro e b6 ⟨rfl,aZ,hF⟩;have bs:=bG.2.2.1.on hF ad;have cE:=bG.2.2.2.on hF ad;have bT:=aB aZ (bG.2.1.trans hF) bs;clear aZ hF bG;obtain⟨d0,aL,aM⟩:=cE.two;obtain⟨bl,aA,aO⟩:=bs.two;clear cE bs;go_wp2_with(fail);generalize cr:World.setCell _ _ _=Y;obtain⟨bI,bE,bz⟩:=dU (M:=fun b=>b=g) (w:=w) [.string (strOf t.text),.bool false,.int .i64 0] (by rfl) bT.2.2 bT.2.1 (KG _) cr;have bC:=ag (bT.1.on bz fun b O=>ad) bE;clear cr bE bz bl aA aO;obtain⟨bl,aA,aO⟩:=bI.two;refine Ln (v:=.agg #[.string (strOf t.text),.bool false,.int .i64 0]) (by simp[results,Tryz.results124,go_sem,bl]) rfl ?_;exact⟨rfl,bC.1,bC.2⟩
 ):p:=h
end Bw
open Bw in
theorem Ec(g:Nat)(A:Ls)(n c:Nat)(T:List Tok)(k deep:Nat)(w:World)(t:Tok)(h:cj w g A n c T k deep)(ht:T[k]?=some t)(bK:t.kind=1)(bR:cz [91] T (k+1)=false)(av:cz [59] T (k+1)=true)(ap:k+2<n) :
  Calls prog 124 #[.pointer (some ⟨g,0,none⟩),.bool false] w fun e ab=>e=.returned (.agg #[.string (strOf t.text),.bool false,.int .i64 0])∧cj ab g A n c T (k+2) deep∧Fr (fun b=>b=g) w ab:=by
 have H:=ae h;have bY:=bH ht bK bR av;have ci:=h.blk.lt;clear h bK ht bR av;go_enter func124,ntmps124;go_upto_region 1 with(fail);generalize ba:World.alloc _ _=W;have aw:=aU ba;have cA:=aG ba;have ah:=aB (H.ai aw) aw cA;clear ba aw cA;go_wp2_with(fail);refine(oS g A n c T k deep W t ah.1 bY.1 bY.2.1 ad).mono ?_;exact Ae
theorem gu{a b:List UInt8}(h:cz a T k=true)(hn:strOf a≠strOf b):cz b T k=false:=by
 unfold cz at h ⊢
 cases hT:T[k]? with
 | none=>rfl
 | some t=>
  rw[hT] at h;simp only[KS,Ll] at h;simp only[Bool.and_eq_false_iff,decide_eq_false_iff_not];exact .inr fun O=>hn (h.2.symm.trans O)
def mS(k:Int)(n m:ByteArray):List Value:=[.int .i64 k,.string n,.int .i64 0,.int .i64 0,.string ⟨#[]⟩,.slice none 0 0,.string m,.slice none 0 0,.slice none 0 0,.slice none 0 0,.slice none 0 0]
theorem HC(n:ByteArray):(bg (.call true n [])).rep w P (mS 4 n ⟨#[]⟩):=eC l5 kG (Sl.bO _) (KG _) (Sl.bO _) (KG _) (Sl.bO _) (KG _)
theorem uH(u:Bool)(n:ByteArray):(bg (.lock u ⟨n,none⟩)).rep w P (mS (if u then 6 else 5) ⟨#[]⟩ n):=
 eC l5 (jv.2 ⟨none,0,0,rfl,KG _,Sl.bO _⟩) (Sl.bO _) (KG _) (Sl.bO _) (KG _) (Sl.bO _) (KG _)
structure y7(w ab:World)(g:Nat)(A:Ls)(n c:Nat)(T:List Tok)(k deep:Nat)(cs:List Value):Prop where
 ps:cj ab g A n c T k deep
 fr:Fr (fun b=>b=g) w ab
 r:aq ab w.heap.size 180 #[.int .i64 0,.string ⟨#[]⟩,.int .i64 0,.int .i64 0,.string ⟨#[]⟩,.slice none 0 0,.string ⟨#[]⟩,.slice none 0 0,.slice none 0 0,.slice none 0 0,.slice none 0 0]
 s:aq ab (w.heap.size+1) 180 cs.toArray
theorem y7.on{w ab aT:World}{g:Nat}{A:Ls}{n c:Nat}{T:List Tok}{k F deep:Nat}{cs:List Value}(h:y7 w ab g A n c T k deep cs)(a2:g<w.heap.size)(hp:cj aT g A n c T F deep)(J:Fr (fun b=>b=g) ab aT):y7 w aT g A n c T F deep cs:=
 ⟨hp,h.fr.trans J,h.r.on J ad,h.s.on J ad⟩
theorem y7.set{ab aT:World}{g:Nat}{A:Ls}{n c:Nat}{deep:Nat}{cs f:List Value}(h:y7 w ab g A n c T k deep cs)(a2:g<w.heap.size)(J:Fr (fun b=>b=w.heap.size+1) ab aT)(hs:aq aT (w.heap.size+1) 180 f.toArray):y7 w aT g A n c T k deep f:=
 ⟨h.ps.on J fun b O=>ad,h.fr.eN (J.below h.fr.size fun k ap hm=>ad),h.r.on J ad,hs⟩
namespace BB
theorem vl(h:p:=by
 refine(show Calls prog 122 #[.pointer (some ⟨g,0,none⟩),.string ⟨#[103,111]⟩] aS _ from dx [103,111] g A n c T k deep aS H1.ps true (by first|exact bY.1|exact gu bY.1 (by decide)) (fun h=>by first|omega|cases h)).mono ?_;rintro e aT ⟨rfl,aZ,hF⟩;have bG:=ae (H1.on ci (show cj aT g A n c T (k+1) deep from by simpa using aZ) hF);clear aZ hF;clear H1;obtain⟨d0,aL,aM⟩:=bG.s.two;clear d0 aL aM;go_wp2_with(fail);refine(oS g A n c T (k+1) deep aT t bG.ps bY.2.1 bY.2.2.1 ad).mono ?_;rintro e j ⟨rfl,aZ,hF⟩;have HA:=ae (bG.on ci aZ hF);clear aZ hF bG;obtain⟨d0,aL,aM⟩:=HA.s.two;simp only[mS] at d0;go_upto_region 15 with(fail);generalize hX:World.setCell _ _ _=X;have aQ:Lu (y7 w X g A n c T (k+1+1) deep (mS 4 (strOf t.text) ⟨#[]⟩)):=by
  refine ae (HA.set ci (by rw[←hX];exact((Fr.refl (fun b=>b=w.heap.size+1) j).setCell (.inl rfl) _).setCell (.inl rfl) _) ?_);rw[←hX];exact(HA.s.aM 0 (.int .i64 4)).aM 1 (.string (strOf t.text))
 clear hX d0 aL aM HA;go_wp2_with(fail);refine(Fx g A n c T (k+1+1) deep X aQ.ps bY.2.2.2.1 bY.2.2.2.2.1 ad).mono ?_;rintro e wb ⟨rfl,aZ,hF⟩;have b2:=ae (aQ.on ci aZ hF);clear aZ hF aQ;obtain⟨d0,aL,aM⟩:=b2.s.two;simp only[mS] at d0;go_upto_region 16 with(fail);generalize hX:World.setCell _ _ _=Y;have bC:Lu (y7 w Y g A n c T (k+1+1+2) deep (mS 4 (strOf t.text) ⟨#[]⟩)):=by
  refine ae (b2.set ci (by rw[←hX];exact(Fr.refl (fun b=>b=w.heap.size+1) wb).setCell (.inl rfl) _) ?_);rw[←hX];exact b2.s.aM 8 (.slice none 0 0)
 clear hX d0 aL aM b2;go_wp2_with(fail);refine(show Calls prog 150 #[.pointer (some ⟨g,0,none⟩),.string ⟨#[59]⟩] Y _ from mL [59] g A n c T (k+1+1+2) deep Y bC.ps bY.2.2.2.2.2 ad).mono ?_;rintro e cx ⟨rfl,aZ,hF⟩;have bd:=ae (bC.on ci aZ hF);clear aZ hF bC;obtain⟨d0,aL,aM⟩:=bd.s.two;obtain⟨bl,aA,aO⟩:=bd.r.two;simp only[mS] at d0;go_wp2_with(fail);generalize hX:World.setCell _ _ _=V;obtain⟨b5,bj,i⟩:=dU (M:=fun b=>b=g) (w:=w) (mS 4 (strOf t.text) ⟨#[]⟩) (by rfl) bd.r bd.fr (KG _) hX;have cc:=ag (bd.ps.on i fun b O=>ad) bj;clear hX bj i bl aA aO d0 aL aM;obtain⟨bl,aA,aO⟩:=b5.two;simp only[mS] at bl;refine Ln (v:=.agg (mS 4 (strOf t.text) ⟨#[]⟩).toArray) (by simp[results,Tryz.results151,go_sem,bl,mS]) rfl ?_;exact⟨rfl,cc.1,cc.2⟩
 ):p:=h
end BB
open BB in
theorem II(g:Nat)(A:Ls)(n c:Nat)(T:List Tok)(k deep:Nat)(w:World)(t:Tok)(h:cj w g A n c T k deep)(ac:cz [103,111] T k=true)(ht:T[k+1]?=some t)(bK:t.kind=1)(av:cz [40] T (k+2)=true)(aV:cz [41] T (k+3)=true)(bz:cz [59] T (k+4)=true)(ap:k+5<n) :
  Calls prog 151 #[.pointer (some ⟨g,0,none⟩)] w fun e ab=>e=.returned (.agg (mS 4 (strOf t.text) ⟨#[]⟩).toArray)∧cj ab g A n c T (k+5) deep∧Fr (fun b=>b=g) w ab:=by
 have H:=ae h;have bY:=cT ac ht bK av aV bz;have ci:=h.blk.lt;clear h ac ht bK av aV bz;exact vk
namespace BC
theorem z6(h:p:=by
 obtain⟨b5,bj,i⟩:=dU (M:=fun b=>b=g) (w:=w) (mS 5 ⟨#[]⟩ (strOf t.text)) (by rfl) bd.r bd.fr (KG _) hX;have cc:=ag (bd.ps.on i fun b O=>ad) bj;clear hX bj i bl aA aO d0 aL aM;obtain⟨bl,aA,aO⟩:=b5.two;simp only[mS] at bl;refine Ln (v:=.agg (mS 5 ⟨#[]⟩ (strOf t.text)).toArray) (by simp[results,Tryz.results151,go_sem,bl,mS]) rfl ?_;exact⟨rfl,cc.1,cc.2⟩
 ):p:=h
theorem Ad(h:p:=by
 refine(show Calls prog 122 #[.pointer (some ⟨g,0,none⟩),.string ⟨#[108,111,99,107]⟩] aT _ from dx [108,111,99,107] g A n c T k deep aT bG.ps true (by first|exact bY.1|exact gu bY.1 (by decide)) (fun h=>by first|omega|cases h)).mono ?_;rintro e b6 ⟨rfl,aZ,hF⟩;have bT:=ae (bG.on ci (show cj b6 g A n c T (k+1) deep from by simpa using aZ) hF);clear aZ hF;clear bG;go_wp2_with(fail);refine(Ed g A n c T (k+1) deep b6 t bT.ps bY.2.1 bY.2.2.1 bY.2.2.2.1 ad).mono ?_;rintro e j ⟨rfl,aZ,hF⟩;have HA:=ae (bT.on ci aZ hF);clear aZ hF bT;obtain⟨d0,aL,aM⟩:=HA.s.two;simp only[mS] at d0;go_upto_region 19 with(fail);generalize hX:World.setCell _ _ _=X;have aQ:Lu (y7 w X g A n c T (k+1+1) deep (mS 5 ⟨#[]⟩ (strOf t.text))):=by
  refine ae (HA.set ci (by rw[←hX];exact(((Fr.refl (fun b=>b=w.heap.size+1) j).setCell (.inl rfl) _).setCell (.inl rfl) _).setCell (.inl rfl) _) ?_);rw[←hX];exact((HA.s.aM 0 (.int .i64 5)).aM 6 (.string (strOf t.text))).aM 7 (.slice none 0 0)
 exact z5
 ):p:=h
theorem vl(h:p:=by
 exact Ac
 ):p:=h
end BC
open BC in
theorem Fy(g:Nat)(A:Ls)(n c:Nat)(T:List Tok)(k deep:Nat)(w:World)(t:Tok)(h:cj w g A n c T k deep)(ac:cz [108,111,99,107] T k=true)(ht:T[k+1]?=some t)(bK:t.kind=1)(bR:cz [91] T (k+2)=false)(av:cz [59] T (k+2)=true)(ap:k+3<n) :
  Calls prog 151 #[.pointer (some ⟨g,0,none⟩)] w fun e ab=>e=.returned (.agg (mS 5 ⟨#[]⟩ (strOf t.text)).toArray)∧cj ab g A n c T (k+3) deep∧Fr (fun b=>b=g) w ab:=by
 have H:=ae h;have bY:=cI ac ht bK bR av;have ci:=h.blk.lt;clear h ac ht bK bR av;exact vk
namespace BD
theorem z6(h:p:=by
 obtain⟨b5,bj,i⟩:=dU (M:=fun b=>b=g) (w:=w) (mS 6 ⟨#[]⟩ (strOf t.text)) (by rfl) bd.r bd.fr (KG _) hX;have cc:=ag (bd.ps.on i fun b O=>ad) bj;clear hX bj i bl aA aO d0 aL aM;obtain⟨bl,aA,aO⟩:=b5.two;simp only[mS] at bl;refine Ln (v:=.agg (mS 6 ⟨#[]⟩ (strOf t.text)).toArray) (by simp[results,Tryz.results151,go_sem,bl,mS]) rfl ?_;exact⟨rfl,cc.1,cc.2⟩
 ):p:=h
theorem Ad(h:p:=by
 refine(show Calls prog 122 #[.pointer (some ⟨g,0,none⟩),.string ⟨#[108,111,99,107]⟩] aT _ from dx [108,111,99,107] g A n c T k deep aT bG.ps false (by first|exact bY.1|exact gu bY.1 (by decide)) (fun h=>by first|omega|cases h)).mono ?_;rintro e b6 ⟨rfl,aZ,hF⟩;have bT:=ae (bG.on ci (show cj b6 g A n c T (k) deep from by simpa using aZ) hF);clear aZ hF;clear bG;go_wp2_with(fail);refine(show Calls prog 122 #[.pointer (some ⟨g,0,none⟩),.string ⟨#[117,110,108,111,99,107]⟩] b6 _ from dx [117,110,108,111,99,107] g A n c T k deep b6 bT.ps true (by first|exact bY.1|exact gu bY.1 (by decide)) (fun h=>by first|omega|cases h)).mono ?_;rintro e cN ⟨rfl,aZ,hF⟩;have b8:=ae (bT.on ci (show cj cN g A n c T (k+1) deep from by simpa using aZ) hF);clear aZ hF;clear bT;go_wp2_with(fail);refine(Ed g A n c T (k+1) deep cN t b8.ps bY.2.1 bY.2.2.1 bY.2.2.2.1 ad).mono ?_;rintro e j ⟨rfl,aZ,hF⟩;have HA:=ae (b8.on ci aZ hF);clear aZ hF b8;obtain⟨d0,aL,aM⟩:=HA.s.two;simp only[mS] at d0;go_upto_region 22 with(fail);generalize hX:World.setCell _ _ _=X;have aQ:Lu (y7 w X g A n c T (k+1+1) deep (mS 6 ⟨#[]⟩ (strOf t.text))):=by
  refine ae (HA.set ci (by rw[←hX];exact(((Fr.refl (fun b=>b=w.heap.size+1) j).setCell (.inl rfl) _).setCell (.inl rfl) _).setCell (.inl rfl) _) ?_);rw[←hX];exact((HA.s.aM 0 (.int .i64 6)).aM 6 (.string (strOf t.text))).aM 7 (.slice none 0 0)
 exact z5
 ):p:=h
theorem vl(h:p:=by
 exact Ac
 ):p:=h
end BD
open BD in
theorem yF(g:Nat)(A:Ls)(n c:Nat)(T:List Tok)(k deep:Nat)(w:World)(t:Tok)(h:cj w g A n c T k deep)(ac:cz [117,110,108,111,99,107] T k=true)(ht:T[k+1]?=some t)(bK:t.kind=1)(bR:cz [91] T (k+2)=false)(av:cz [59] T (k+2)=true)(ap:k+3<n) :
  Calls prog 151 #[.pointer (some ⟨g,0,none⟩)] w fun e ab=>e=.returned (.agg (mS 6 ⟨#[]⟩ (strOf t.text)).toArray)∧cj ab g A n c T (k+3) deep∧Fr (fun b=>b=g) w ab:=by
 have H:=ae h;have bY:=cI ac ht bK bR av;have ci:=h.blk.lt;clear h ac ht bK bR av;exact vk
def s7(T:List Tok)(k:Nat):Option (aA×Nat):=match T[k+1]? with
 | none=>none
 | some t=>
  if t.kind=1 then
   if cz [103,111] T k && cz [40] T (k+2) && cz [41] T (k+3) && cz [59] T (k+4) && decide (k+5<T.length) then some (.call true (strOf t.text) [],k+5)
   else if cz [108,111,99,107] T k && !cz [91] T (k+2) && cz [59] T (k+2) && decide (k+3<T.length) then some (.lock false ⟨strOf t.text,none⟩,k+3)
   else if cz [117,110,108,111,99,107] T k && !cz [91] T (k+2) && cz [59] T (k+2) && decide (k+3<T.length) then some (.lock true ⟨strOf t.text,none⟩,k+3)
   else none
  else none
theorem xW{st:aA}(h:s7 T k=some (st,F)):k+3≤F:=by
 unfold s7 at h;split at h
 ·cases h
 ·split at h
  ·split at h
   ·injection h with h;injection h with _ h;omega
   ·split at h
    ·injection h with h;injection h with _ h;omega
    ·split at h
     ·injection h with h;injection h with _ h;omega
     ·cases h
  ·cases h
theorem Fz(g:Nat)(A:Ls)(n c:Nat)(T:List Tok)(k deep:Nat)(w:World)(st:aA)(F:Nat)(h:cj w g A n c T k deep)(hs:s7 T k=some (st,F)) :
  Calls prog 151 #[.pointer (some ⟨g,0,none⟩)] w fun e ab=>∃(q:Int) (a b:ByteArray),e=.returned (.agg #[.int .i64 q,.string a,.int .i64 0,.int .i64 0,.string ⟨#[]⟩,.slice none 0 0,.string b,.slice none 0 0,.slice none 0 0,.slice none 0 0,.slice none 0 0])∧(∀w P,(bg st).rep w P (mS q a b))∧cj ab g A n c T F deep∧Fr (fun b=>b=g) w ab:=by
 have hl:=h.ta.1;unfold s7 at hs;split at hs
 ·cases hs
 ·rename_i t ht;split at hs
  ·rename_i bK;split at hs
   ·rename_i hc;simp only[KS,Ll] at hc;injection hs with hs;injection hs with ac av;subst ac av;refine(II g A n c T k deep w t h hc.1.1.1.1 ht bK hc.1.1.1.2 hc.1.1.2 hc.1.2 ad).mono ?_;rintro e ab ⟨rfl,aZ,hF⟩;exact⟨4,_,_,rfl,fun w P=>HC _,aZ,hF⟩
   ·split at hs
    ·rename_i hc;simp only[KS,Ll,Bool.not_eq_true'] at hc;injection hs with hs;injection hs with ac av;subst ac av;refine(Fy g A n c T k deep w t h hc.1.1.1 ht bK hc.1.1.2 hc.1.2 ad).mono ?_;rintro e ab ⟨rfl,aZ,hF⟩;exact⟨5,_,_,rfl,fun w P=>uH false _,aZ,hF⟩
    ·split at hs
     ·rename_i hc;simp only[KS,Ll,Bool.not_eq_true'] at hc;injection hs with hs;injection hs with ac av;subst ac av;refine(yF g A n c T k deep w t h hc.1.1.1 ht bK hc.1.1.2 hc.1.2 ad).mono ?_;rintro e ab ⟨rfl,aZ,hF⟩;exact⟨6,_,_,rfl,fun w P=>uH true _,aZ,hF⟩
     ·cases hs
  ·cases hs
def jG(T:List Tok):Nat→Nat→Option (List aA×Nat)
 | 0,_=>none
 | f+1,k=>if cz [125] T k then (if k+1<T.length then some ([],k+1) else none) else (s7 T k).bind fun p=>(jG T f p.2).map fun q=>(p.1::q.1,q.2)
theorem wL{f:Nat}{ls:List aA}(h:jG T f k=some (ls,F)):(cz [125] T k=true∧k+1<T.length∧ls=[]∧F=k+1)∨(cz [125] T k=false∧∃(st:aA) (bP f2:Nat) (t:List aA),s7 T k=some (st,bP)∧jG T f2 bP=some (t,F)∧ls=st::t):=by
 cases f with
 | zero=>cases h
 | succ f=>
  simp only[jG] at h;split at h
  ·rename_i ac;split at h
   ·rename_i av;injection h with h;injection h with aV bz;exact .inl ⟨ac,av,aV.symm,bz.symm⟩
   ·cases h
  ·rename_i ac
   cases hs:s7 T k with
   | none=>rw[hs] at h;cases h
   | some p=>
    rw[hs] at h;obtain⟨st,bP⟩:=p;simp only[Option.bind_some] at h
    cases a5:jG T f bP with
    | none=>rw[a5] at h;cases h
    | some q=>
     rw[a5] at h;simp only[Option.map_some] at h;injection h with h;injection h with aV bz;subst bz;exact .inr ⟨by simpa using ac,st,bP,f,q.1,rfl,a5,aV.symm⟩
def It:Value→Nat
 | .slice _ n _=>n
 | _=>0
theorem Eb(g:Nat)(A:Ls)(n c:Nat)(T:List Tok)(k deep:Nat)(w:World)(f:Nat)(ls:List aA)(F:Nat)(h:cj w g A n c T k deep)(hd:deep<24)(ac:cz [123] T k=true)(ap:k+1<n)(hs:jG T f (k+1)=some (ls,F)) :
  Calls prog 127 #[.pointer (some ⟨g,0,none⟩)] w fun e ab=>∃(bq:Ls) (on b7:Nat),e=.returned (.slice bq on b7)∧on≤b7∧Sl ab (fresh w ab) bq on (ls.map bg)∧cj ab g A n c T F deep∧Fr (fun b=>b=g) w ab:=by
 have H:=ae h;have bY:=ag ac hs;have ci:=h.blk.lt;have L:=h.jy;have ay:((deep:Int) == 24)=false:=by simp;omega
 clear h ac hs;go_enter func127,ntmps127;go_wp2_with(fail);refine(show Calls prog 120 #[.pointer (some ⟨g,0,none⟩),.string ⟨#[123]⟩] w _ from lz [123] g A n c T k deep w H.o).mono ?_;rintro e aS ⟨rfl,aw⟩;rw[bY.1];have H1:=ag (H.ai aw) (aw.mono (M':=fun b=>b=g) fun _ h=>h.elim);clear aw;obtain⟨a0,ai,af⟩:=H1.1.blk.two;go_wp2_with(fail);refine(show Calls prog 150 #[.pointer (some ⟨g,0,none⟩),.string ⟨#[123]⟩] aS _ from mL [123] g A n c T k deep aS H1.1 bY.1 ap).mono ?_;rintro e aT ⟨rfl,aZ,hF⟩;have bG:=ag aZ (H1.2.trans hF);clear aZ hF a0 ai af H1;obtain⟨a0,ai,af⟩:=bG.1.blk.two;go_upto_region 5 with(fail);generalize hX:World.setCell _ _ _=X;have J:=cL hX;have aR:aq X g 202 #[.slice A n c,.int .i64 ((k+1:Nat):Int),.int .i64 0,.int .i64 0,.int .i64 0,.int .i64 ((deep+1:Nat):Int)]:=hX▸bG.1.blk.aM 5 (.int .i64 ((deep:Int)+1));have aQ:=ag (show cj X g A n c T (k+1) (deep+1) from ⟨aR,bG.1.ta.ez (J.below (aD bG.1.blk.lt) fun b O hm=>ad),ap,L⟩) (bG.2.trans J);clear hX J aR a0 ai af bG;go_wp2_with(fail);go_loopw [3] (fun aV wr=>∃(bq:Ls) (on b7 j aH:Nat) (acc rest:List aA),aV=.slice bq on b7∧on≤j∧cj wr g A n c T j (deep+1)∧Fr (fun b=>b=g) w wr∧Gr (fun _=>False) w.heap.size 180 11 wr bq on b7 (acc.map bg)∧jG T aH j=some (rest,F)∧acc++rest=ls) (fun aV _=>4001 - It aV)
 case atStart=>exact⟨none,0,0,k+1,f,[],ls,rfl,ad,aQ.1,aQ.2,Gr.nil _ _ _ _ _,bY.2,rfl⟩
 case round=>
  obtain⟨bq,on,b7,j,aH,acc,rest,rfl,bV,aZ,hF,hG,co,y⟩:=hrel;clear aQ;have G:=aZ.lt;have aW:=bH aZ hF hG y;obtain⟨a0,ai,af⟩:=aZ.blk.two;have m1:=hF.size;clear aZ hF hG y;rcases wL co with⟨hc,cK,i,E⟩|⟨hc,st,bP,f2,t,cn,bO,cb⟩
  ·have bR:=bH hc cK i E;clear hc cK i E co;go_wp2_with(fail);refine(show Calls prog 122 #[.pointer (some ⟨g,0,none⟩),.string ⟨#[125]⟩] wr _ from dx [125] g A n c T j (deep+1) wr aW.1 true bR.1 (fun _=>by have:=bR.2.1;have:=aW.1.ta.1;omega)).mono ?_;rintro e b6 ⟨rfl,aZ,hF⟩;have bT:=ag (show cj b6 g A n c T (j+1) (deep+1) from by simpa using aZ) hF;clear aZ hF a0 ai af;obtain⟨a0,ai,af⟩:=bT.1.blk.two;go_upto_region 9 with(fail);generalize hX:World.setCell _ _ _=X;have J:=cL hX;have aR:aq X g 202 #[.slice A n c,.int .i64 ((j+1:Nat):Int),.int .i64 0,.int .i64 0,.int .i64 0,.int .i64 (deep:Int)]:=hX▸bT.1.blk.aM 5 (.int .i64 (deep:Int));have az:Fr (fun b=>b=g) wr X:=bT.2.trans J;have aQ:=aB (show cj X g A n c T (j+1) deep from ⟨aR,bT.1.ta.ez (J.below (aD bT.1.blk.lt) fun b O hm=>ad),bT.1.lt,L⟩) (aW.2.1.trans az) (aW.2.2.1.c4 az fun b O _=>⟨fun h=>h,ad⟩);clear hX J aR az a0 ai af bT;go_wp2_with(fail);go_ret;refine⟨bq,on,b7,rfl,aQ.2.2.cap.1,?_,by rw[bR.2.2.2];exact aQ.1,aQ.2.1⟩;have cm:=aW.2.2.2;rw[bR.2.2.1,Lg] at cm;rw[←cm];exact aQ.2.2.sl (fun b _ h=>h.elim) fun b O hp=>⟨hp,O⟩
  ·have bR:=bH hc cn bO cb;have bX:=xW cn;clear hc cn bO cb co;go_wp2_with(fail);refine(show Calls prog 122 #[.pointer (some ⟨g,0,none⟩),.string ⟨#[125]⟩] wr _ from dx [125] g A n c T j (deep+1) wr aW.1 false bR.1 (fun h=>by cases h)).mono ?_;rintro e b6 ⟨rfl,aZ,hF⟩;have bT:=ag (show cj b6 g A n c T j (deep+1) from by simpa using aZ) hF;clear aZ hF a0 ai af;go_wp2_with(fail);refine(Fz g A n c T j (deep+1) b6 st bP bT.1 bR.2.1).mono ?_;rintro e cN ⟨q,a,b,rfl,bU,aZ,hF⟩;have az:Fr (fun b=>b=g) wr cN:=bT.2.trans hF;have m:=aW.2.2.1.c4 az fun b O _=>⟨fun h=>h,ad⟩
   have hd:=bU cN (lv (fun _=>False) cN (.slice bq on b7));have b0:w.heap.size≤cN.heap.size:=by have:=az.size;omega
   have b8:=bH aZ (aW.2.1.trans az) m hd;clear aZ hF az m hd bU bT;go_wp2_with(at_builtin;refine bQ oD rfl (.tmp 34) (.tmp 37) rfl b8.2.2.1 b8.2.2.2 rfl rfl rfl ad ad b0 ?_;intro aX e4 c6 bB az al b9;have b4:=ag bB az;clear bB az al b9);have bv:∀b,(Value.slice bq on b7).ownBlock=some b→w.heap.size≤b:=fun b O=>(b8.2.2.1.lt O).1;have a3:Fr (fun b=>b=g) w c6:=b8.2.1.eN (b4.2.below b0 fun k ap h=>by have:=bv k h;omega);have cR:=aB (b8.1.on b4.2 fun b O=>by have:=bv b O;omega) a3 b4.1;clear bv a3 b4 b8;go_roundw
   case rel=>exact⟨aX,on+1,e4,bP,f2,acc++[st],t,rfl,ad,cR.1,cR.2.1,by rw[KN];exact cR.2.2,bR.2.2.1,by have:=aW.2.2.2;rw[bR.2.2.2] at this;rw[←this];simp⟩
   case measure=>simp only[It];omega
end Go.Proofs.YtnhhdaggkiomoaaGreat

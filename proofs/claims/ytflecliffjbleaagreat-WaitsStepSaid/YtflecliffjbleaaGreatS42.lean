/- Part 42 of the proof. No condition of its own. -/
import Derived.Test.YtflecliffjbleaaGreatS40
namespace Go.Proofs.YtflecliffjbleaaGreat
open Go.RowKit Go.Proofs.Tryz
set_option maxRecDepth 1000000
set_option maxHeartbeats 25600000
set_option linter.unusedVariables false
variable{B g z:Nat}{P:Nat->Prop}{p:Prop}{e:TypeId}{f:aG}{b:al}
namespace Dl
theorem fO(h:p:=by
 refine ck ?_;generalize bG:World.setCell _ _ _=hN;have hc:wr.heap.size<=cD:=ad;obtain⟨bD,bx,bJ⟩:=ef (M:=λb=>b=S.heap.size+1) [.string ((⟨#[112]⟩:ByteArray)++strOf [byteOf bv]),.bool _] (by rfl) bV ai hc bG;obtain⟨hr,bD⟩:∃hr,ao hN cD 173 #[.string ((⟨#[112]⟩:ByteArray)++strOf [byteOf bv]),.bool hr]:=⟨_,bD⟩
 rw[EL ad aI.o] at bD;have iy:=cj.blk.lt;have iq:=bT.2.2.1.lt;have aW:=cX (aw.cT bJ λb O h=>ad) (bT.2.1.trans bx) (bT.2.2.1.on bx ad) (bT.2.2.2.cS bx (λb O _=>⟨λh=>h,ad⟩)) bD;have ci:T.heap.size+1+1<=hN.heap.size:=by have:=bx.size;omega
 clear bG bD bx bJ aw ai bV bU aX a4;obtain⟨f0,dQ,eW⟩:=aW.2.2.1.two;obtain⟨bU,aX,a4⟩:=aW.2.2.2.2.two;go_wp2_with(at_builtin;refine bI DQ rfl (.tmp 167) (.tmp 169) rfl aW.2.2.2.1 (tv.2 rfl:(cz (uK m,hr)).rep hN _ _) rfl rfl rfl ad ad ci ?_;intro ip hT hW hQ bO h6 h5;have gy:=aW.2.2.1.on bO (λO=>by have:=(aW.2.2.2.1.lt O).1;omega);have eV:=ah hQ bO;clear f0 dQ eW hQ bO h6 h5 bU aX a4;obtain⟨f0,dQ,eW⟩:=gy.two;clear gy);generalize hX:World.setCell _ _ _=hU;have bk:∀b,(Value.slice PA pn pc).ownBlock=some b->T.heap.size+1+1<=b:=λb O=>(aW.2.2.2.1.lt O).1;have cI:=cJ hX;have b5:ao hU (T.heap.size+1) 137 #[.string (jI i),.slice ip (pn+1) hT,.slice none 0 0]:=hX▸(aW.2.2.1.on eV.2 (λO=>by have:=bk _ O;omega)).aJ 1 _;have dT:=(aW.1.cT eV.2 λb O h=>by have:=bk b h;omega).cT cI λb O h=>ad;have L:Fr (λb=>b=S.heap.size+1) T hU:=(aW.2.1.eU (eV.2.below aW.2.1.size λk aj h=>by have:=bk k h;omega)).eU (cI.below (nz aW.2.1.size eV.2.size) λk aj h=>ad);have hl:=eV.1.cS cI λb O _=>⟨λh=>h,ad⟩
 have hd:=bA dT L b5 hl;clear hX cI b5 dT L hl f0 dQ eW bk;obtain⟨bS,aR⟩:∃bS,m=bS+1:=⟨m - 1,ad⟩
 have cN:(m:Int) - 1=((bS:Nat):Int):=ad;go_roundw
 case rel=>
  refine⟨bS,ip,pn+1,hT,ps++[(uK m,hr)],by first|(rw[cN])|(congr 1)|go_num,ad,ad,λh=>ad,λh=>?_,hd.1,hd.2.1,hd.2.2.1,by rw[LJ];exact hd.2.2.2⟩;have ac:=gS.2 h;rw[aR] at ac;rw[aR,<-ac];simp[fh]
 case measure=>exact aE
 ):p:=h
theorem AE(h:p:=by
 generalize ha:IntKind.u8.wrap (IntKind.i64.wrap (48+(m:Int)))=bv;obtain⟨bB,hO⟩:∃bB,bB=wr.heap.size:=⟨_,rfl⟩
 have aI:=ae ha;clear ha;have hp:(strOf [byteOf bv]).size=1:=aM _;have U:=ah bT.1 (Fr.refl (λb=>b=S.heap.size+1) wr);refine iV (P:=?_) (ops:=?_) (Q:=?_) (R:=?_) (tails:=?_) (rest:=.pick [14] (λ_=>.stop)) (aa:=?_)
  (C:=λ(a2 cD j:Nat) fg=>cp fg (S.heap.size+1) A n c l/\Fr (λb=>b=S.heap.size+1) wr fg/\ao fg cD 173 #[.string ⟨#[]⟩,.bool false]/\bB<=cD/\j<3) (λkey=>?_) ?_
 rotate_left 6
 ·
  refine q3 ?_ ?_ ?_
  ·
   refine eu ?_;refine bu (λV=>Ext wr V/\ao V wr.heap.size 5 #[.int .u8 bv]) ⟨(Mg.alloc _).drew,Mh⟩ (λcf hV=>?_);have aN:=ah (U.1.cT hV.1 λ_ _ h=>h) (U.2.trans (hV.1.mono λ_ h=>h.elim));have h7:wr.heap.size<=wr.heap.size:=U.2.size;have bl:=ae hV.2;clear hV;obtain⟨e0,a6,aQ⟩:=bl.two;refine cx (v:=?_) rfl (by rfl) (λV hV=>?_) ?_;rotate_left
   .have b4:=fD V (wr.heap.size) bv ((hV.cell aQ ad).trans (e0 0))
    (go_simp<;>with_reducible rfl)
   try simp only[PU]
   clear e0 a6 aQ;refine tf ?_;refine a5 ?_ ?_
   ·
    refine aD rfl (λK hK=>?_) rfl;go_simp;refine(aY _ (S.heap.size+1) A n c l 3 (aN.1.cT (M:=λ_=>False) Mg (λ_ _ h=>h)) ad ad).mono ?_;rintro e cq ⟨b8,rfl,br,O,h,he⟩;obtain⟨j,rfl⟩:=LH br;have bi:j<3:=ad;have ai:Fr (λb=>b=S.heap.size+1) cf cq:=he.fr;have bF:=ah h (aN.2.trans ai);have hu:=ae (bl.on ai ad);refine dP hK (he.fr) ?_;clear hK K;clear h he ai br O
    iterate 2 refine tf ?_
    refine aq ?_;refine eu ?_;refine bu (λV=>Ext cq V/\ao V cq.heap.size 173 #[.string ⟨#[]⟩,.bool false]) ⟨Mg.alloc _,Mh⟩ (λiz hV=>?_);have e2:=ah (bF.1.cT hV.1 λ_ _ h=>h) (bF.2.trans (hV.1.mono λ_ h=>h.elim));have h8:wr.heap.size<=cq.heap.size:=bF.2.size;have hz:=ae hV.2;have hZ:=ae (hu.aj hV.1);clear hV;have ag:=And.intro e2.1 (And.intro e2.2 (And.intro hz.o (And.intro (show bB<=cq.heap.size by omega) bi)));revert ag;generalize wr.heap.size=a2;generalize cq.heap.size=cD;intro ag;exact key a2 cD j _ ag
   ·
    refine eu ?_;refine bu (λV=>Ext cf V/\ao V cf.heap.size 173 #[.string ⟨#[]⟩,.bool false]) ⟨Mg.alloc _,Mh⟩ (λij hV=>?_);have gR:=ah (aN.1.cT hV.1 λ_ _ h=>h) (aN.2.trans (hV.1.mono λ_ h=>h.elim));have h9:wr.heap.size<=cf.heap.size:=aN.2.size;have hA:=ae hV.2;have hv:=ae (bl.aj hV.1);clear hV;refine aq ?_;refine aD rfl (λK hK=>?_) rfl;go_simp;refine(aY _ (S.heap.size+1) A n c l 3 (gR.1.cT (M:=λ_=>False) Mg (λ_ _ h=>h)) ad ad).mono ?_;rintro e ik ⟨b8,rfl,br,O,h,he⟩;obtain⟨j,rfl⟩:=LH br;have bi:j<3:=ad;have ai:Fr (λb=>b=S.heap.size+1) ij ik:=he.fr;have gZ:=ah h (gR.2.trans ai);have h0:=ae (hv.on ai ad);have hB:=ae (hA.on ai ad);refine dP hK (he.fr) ?_;clear hK K;clear h he ai br O
    iterate 2 refine tf ?_
    have ag:=And.intro gZ.1 (And.intro gZ.2 (And.intro hB.o (And.intro (show bB<=cf.heap.size by omega) bi)));revert ag;generalize wr.heap.size=a2;generalize cf.heap.size=cD;intro ag;exact key a2 cD j _ ag
  ·
   refine aD rfl (λK hK=>?_) rfl;go_simp;refine(aY _ (S.heap.size+1) A n c l 3 (U.1.cT (M:=λ_=>False) (Mg.drew) (λ_ _ h=>h)) ad ad).mono ?_;rintro e aF ⟨b8,rfl,br,O,h,he⟩;obtain⟨j,rfl⟩:=LH br;have bi:j<3:=ad;have ai:Fr (λb=>b=S.heap.size+1) wr aF:=Fr.aF he.fr;have an:=ah h (U.2.trans ai);refine dP hK (he.fr) ?_;clear hK K;clear h he ai br O;refine tf ?_;refine a5 ?_ ?_
   ·
    refine eu ?_;refine bu (λV=>Ext aF V/\ao V aF.heap.size 5 #[.int .u8 bv]) ⟨Mg.alloc _,Mh⟩ (λc1 hV=>?_);have bH:=ah (an.1.cT hV.1 λ_ _ h=>h) (an.2.trans (hV.1.mono λ_ h=>h.elim));have ia:wr.heap.size<=aF.heap.size:=an.2.size;have dd:=ae hV.2;clear hV;obtain⟨e0,a6,aQ⟩:=dd.two;refine cx (v:=?_) rfl (by rfl) (λV hV=>?_) ?_;rotate_left
    .have b4:=fD V (aF.heap.size) bv ((hV.cell aQ ad).trans (e0 0))
     (go_simp<;>with_reducible rfl)
    try simp only[PU]
    clear e0 a6 aQ
    iterate 2 refine tf ?_
    refine aq ?_;refine eu ?_;refine bu (λV=>Ext c1 V/\ao V c1.heap.size 173 #[.string ⟨#[]⟩,.bool false]) ⟨Mg.alloc _,Mh⟩ (λiA hV=>?_);have g0:=ah (bH.1.cT hV.1 λ_ _ h=>h) (bH.2.trans (hV.1.mono λ_ h=>h.elim));have ib:wr.heap.size<=c1.heap.size:=bH.2.size;have hC:=ae hV.2;have h1:=ae (dd.aj hV.1);clear hV;have ag:=And.intro g0.1 (And.intro g0.2 (And.intro hC.o (And.intro (show bB<=c1.heap.size by omega) bi)));revert ag;generalize aF.heap.size=a2;generalize c1.heap.size=cD;intro ag;exact key a2 cD j _ ag
   ·
    refine eu ?_;refine bu (λV=>Ext aF V/\ao V aF.heap.size 173 #[.string ⟨#[]⟩,.bool false]) ⟨Mg.alloc _,Mh⟩ (λc2 hV=>?_);have bL:=ah (an.1.cT hV.1 λ_ _ h=>h) (an.2.trans (hV.1.mono λ_ h=>h.elim));have ic:wr.heap.size<=aF.heap.size:=an.2.size;have hE:=ae hV.2;clear hV;refine aq ?_;refine eu ?_;refine bu (λV=>Ext c2 V/\ao V c2.heap.size 5 #[.int .u8 bv]) ⟨Mg.alloc _,Mh⟩ (λiB hV=>?_);have g1:=ah (bL.1.cT hV.1 λ_ _ h=>h) (bL.2.trans (hV.1.mono λ_ h=>h.elim));have ie:wr.heap.size<=c2.heap.size:=bL.2.size;have hw:=ae hV.2;have hG:=ae (hE.aj hV.1);clear hV;obtain⟨e0,a6,aQ⟩:=hw.two;refine cx (v:=?_) rfl (by rfl) (λV hV=>?_) ?_;rotate_left
    .have b4:=fD V (c2.heap.size) bv ((hV.cell aQ ad).trans (e0 0))
     (go_simp<;>with_reducible rfl)
    try simp only[PU]
    clear e0 a6 aQ
    iterate 2 refine tf ?_
    have ag:=And.intro g1.1 (And.intro g1.2 (And.intro hG.o (And.intro (show bB<=aF.heap.size by omega) bi)));revert ag;generalize c2.heap.size=a2;generalize aF.heap.size=cD;intro ag;exact key a2 cD j _ ag
  ·
   refine eu ?_;refine bu (λV=>Ext wr V/\ao V wr.heap.size 173 #[.string ⟨#[]⟩,.bool false]) ⟨(Mg.alloc _).drew,Mh⟩ (λcu hV=>?_);have aT:=ah (U.1.cT hV.1 λ_ _ h=>h) (U.2.trans (hV.1.mono λ_ h=>h.elim));have ig:wr.heap.size<=wr.heap.size:=U.2.size;have g5:=ae hV.2;clear hV;refine a5 ?_ ?_
   ·
    refine eu ?_;refine bu (λV=>Ext cu V/\ao V cu.heap.size 5 #[.int .u8 bv]) ⟨Mg.alloc _,Mh⟩ (λil hV=>?_);have g2:=ah (aT.1.cT hV.1 λ_ _ h=>h) (aT.2.trans (hV.1.mono λ_ h=>h.elim));have ih:wr.heap.size<=cu.heap.size:=aT.2.size;have eM:=ae hV.2;have hH:=ae (g5.aj hV.1);clear hV;obtain⟨e0,a6,aQ⟩:=eM.two;refine cx (v:=?_) rfl (by rfl) (λV hV=>?_) ?_;rotate_left
    .have b4:=fD V (cu.heap.size) bv ((hV.cell aQ ad).trans (e0 0))
     (go_simp<;>with_reducible rfl)
    try simp only[PU]
    clear e0 a6 aQ;refine tf ?_;refine aq ?_;refine aD rfl (λK hK=>?_) rfl;go_simp;refine(aY _ (S.heap.size+1) A n c l 3 (g2.1.cT (M:=λ_=>False) Mg (λ_ _ h=>h)) ad ad).mono ?_;rintro e im ⟨b8,rfl,br,O,h,he⟩;obtain⟨j,rfl⟩:=LH br;have bi:j<3:=ad;have ai:Fr (λb=>b=S.heap.size+1) il im:=he.fr;have g3:=ah h (g2.2.trans ai);have h2:=ae (eM.on ai ad);have hJ:=ae (hH.on ai ad);refine dP hK (he.fr) ?_;clear hK K;clear h he ai br O
    iterate 2 refine tf ?_
    have ag:=And.intro g3.1 (And.intro g3.2 (And.intro hJ.o (And.intro (show bB<=wr.heap.size by omega) bi)));revert ag;generalize cu.heap.size=a2;exact xS
   ·
    refine aD rfl (λK hK=>?_) rfl;go_simp;refine(aY _ (S.heap.size+1) A n c l 3 (aT.1.cT (M:=λ_=>False) Mg (λ_ _ h=>h)) ad ad).mono ?_;rintro e cC ⟨b8,rfl,br,O,h,he⟩;obtain⟨j,rfl⟩:=LH br;have bi:j<3:=ad;have ai:Fr (λb=>b=S.heap.size+1) cu cC:=he.fr;have bY:=ah h (aT.2.trans ai);have hL:=ae (g5.on ai ad);refine dP hK (he.fr) ?_;clear hK K;clear h he ai br O;refine tf ?_;refine aq ?_;refine eu ?_;refine bu (λV=>Ext cC V/\ao V cC.heap.size 5 #[.int .u8 bv]) ⟨Mg.alloc _,Mh⟩ (λiC hV=>?_);have g4:=ah (bY.1.cT hV.1 λ_ _ h=>h) (bY.2.trans (hV.1.mono λ_ h=>h.elim));have ii:wr.heap.size<=cC.heap.size:=bY.2.size;have hx:=ae hV.2;have hM:=ae (hL.aj hV.1);clear hV;obtain⟨e0,a6,aQ⟩:=hx.two;refine cx (v:=?_) rfl (by rfl) (λV hV=>?_) ?_;rotate_left
    .have b4:=fD V (cC.heap.size) bv ((hV.cell aQ ad).trans (e0 0))
     (go_simp<;>with_reducible rfl)
    try simp only[PU]
    clear e0 a6 aQ
    iterate 2 refine tf ?_
    have ag:=And.intro g4.1 (And.intro g4.2 (And.intro hM.o (And.intro (show bB<=wr.heap.size by omega) bi)));revert ag;generalize cC.heap.size=a2;exact xS
 ·
  exact B1
 ):p:=h
end Dl
open Dl in
theorem Kg(S:World)(gV:Value)(Q:Exit->Act->World->Prop)(hQ0:∀c a d v w,Q (.panic c) (a.put d v) w->Q (.panic c) a w)
  (s:∀bE az,(∀a ab,Code.wp prog (nU 32) (Exit.then az Q) a ab->bE a ab)->(∀a ab,Code.wp prog (HB 42) Q a ab->az a ab)->Fy S gV (Exit.then az Q) bE)
  (K:Act->World->Prop) (hK:∀a ab,Code.wp prog (nU 19) Q a ab->K a ab):Fx S gV Q K:=by
 unfold Fx;intro io A n c l ar MA mn mc M GA gn gc G av a7 hs ht gO gU u8 gQ eX gw gx cc bW bw u16 cM gz eY eZ e3 e4 e5 e6 e7 e8 e9 fa fb fd fe u32 ff fi fj fl fo fp fq fr fs ft fu fv fw fx fy fz fA fB fC fE fF fG fH fI fJ fK fL fM fN fP fQ u64 fR fS fT fU fV fW fX fY fZ f3 f4 f5 f6 f7 f8 f9 ga gb gd ge gf gg gh gi gj gk gl gm go gp gq gs gt gu gv H I am aJ aK aL aO aZ a8 bb bd bf bo bs bz bC bK bZ b2 b6 b9 cd cg ch cl cm cn co cA cB cE cF cG cH cK cL cP cQ cR cS cT cU cV cW cY cZ c4 c5 c6 c7 c8 c9 da db dc de df dg dh di dj dk dl dm dn dp dq dr ds dt du dv dw dy dz dA dB dC dD dE dF dG dH dI dJ dK dM dN dO dR dS dV dW dX dY dZ d0 d1 d2 d3 d4 d5 d6 d7 d8 d9 ea eb ec ed ee eg eh ei ej ek el em en eo ep eq er es et ev ew ex ey ez eA eB eC eD eE eF eG eH eI eJ eL eN eO eP eQ eR eS eT eU bj gA gB gC gD gE gF gG gH gI gJ gK gL gM gN w be;obtain⟨bg,gW⟩:=aH be.Kg s;obtain⟨u,g8⟩:∃u,u=w.heap.size:=⟨_,rfl⟩
 rw[<-g8] at bg;clear be s g8;conv=>arg 2;whnf
 conv at hK=>enter [a,w,1,2];whnf
 obtain⟨a0,ak,af⟩:=bg.blk.two;go_wp2_with(fail);refine(aY w (S.heap.size+1) A n c l 4 bg.src ad ad).mono ?_;rintro e aP ⟨cv,rfl,bm,bX,h,he⟩;obtain⟨N,rfl⟩:=LH bm;have hg:N<4:=ad;have gY:=ae (bg.next h he.fr);clear h he a0 ak af bg bm bX;go_wp2_with(fail);go_loopw [12] (λcw wr=>∃(i:Nat) (FA:Mk) (fc:Nat) (F:List aG),cw=.int .i64 i/\i<=N+1/\zM S u wr A n c l ar MA mn mc M GA gn gc G av a7 FA i fc F) (λcw _=>N+1 - (intOf cw).toNat)
 case atStart=>exact⟨0,none,0,[],rfl,ad,gY.o⟩
 case round=>
  obtain⟨i,FA,fc,F,rfl,al,be⟩:=hrel;obtain⟨T,rfl⟩:∃T,T=wr:=⟨wr,rfl⟩
  clear gY;have cj:=ae be;obtain⟨a0,ak,af⟩:=be.blk.two;have cr:F.length=i:=by have:=be.fs.len;simpa using this
  have hD:=be.hD;clear be;by_cases ap:i<=N
  .have aU:(i:Int)<=(N:Int):=ad;have e1:i<=3:=ad;have b4:=λ(W:World) (v:Int)=>la W v;have hS:∀v,(strOf [byteOf v]).size=1:=λv=>aM _;go_upto_region 24 with(fail);clear hS;generalize hX:World.alloc _ _=g6;have b7:=hi hX;have g9:ao g6 (T.heap.size+1) 137 #[.string (⟨#[102]⟩++strOf [byteOf (48+(i:Int))]),.slice none 0 0,.slice none 0 0]:=by
    rw[<-hX];exact ao.gA _ _ _ (by simp)
   have f2:=cj.src.cT b7 λ_ _ h=>h;have dL:=aA f2 b7 g9;clear hX b7 g9 f2 a0 ak af;by_cases f1:i=0
   case' pos=>
    have hf:((i:Int) == 0)=true:=by simp;omega
    obtain⟨f0,dQ,eW⟩:=dL.2.2.two;have bP:=ae f1;clear f1;go_upto_region 26 with(fail);generalize hX:World.setCell _ _ _=Y;have J:=cJ hX;have ix:=cj.blk.lt;have hF:cp Y (S.heap.size+1) A n c l/\Fr (λb=>b=S.heap.size+1) T Y/\ao Y (T.heap.size+1) 137 #[.string (jI i),.slice none 0 0,.slice none 0 0]:=by
     refine⟨dL.1.cT J (λb O h=>ad),(dL.2.1.mono λ_ h=>h.elim).eU (J.below dL.2.1.size λk aj h=>ad),?_⟩;rw[<-hX,bP.o];exact dL.2.2.aJ 0 _
    clear hX J f0 dQ eW dL
   case' neg=>
    have hf:((i:Int) == 0)=false:=by simp;omega
    have bP:=ae f1;clear f1;go_upto_region 26 with(fail);have hF:cp g6 (S.heap.size+1) A n c l/\Fr (λb=>b=S.heap.size+1) T g6/\ao g6 (T.heap.size+1) 137 #[.string (jI i),.slice none 0 0,.slice none 0 0]:=⟨dL.1,dL.2.1.mono λ_ h=>h.elim,by have:=dL.2.2;rw[Ed ad bP.o rfl] at this;exact this⟩
    clear dL;revert hF;generalize g6=Y;intro hF
   all_goals
    clear b4;have bT:=ae hF;obtain⟨a0,ak,af⟩:=(cj.next bT.1 bT.2.1).blk.two;clear hF;go_wp2_with(fail);refine(aY Y (S.heap.size+1) A n c l 3 bT.1 ad ad).mono ?_;rintro e g7 ⟨bR,rfl,bm,bX,h,he⟩;obtain⟨hq,rfl⟩:=LH bm;have bQ:hq<=2:=ad;have bM:=aA h (bT.2.1.trans he.fr) (bT.2.2.on he.fr (aB cj.blk.lt));clear h he a0 ak af bT bm bX;go_wp2_with(fail);go_loopw [14] (λhk bp=>∃(m:Nat) (PA:Mk) (pn pc:Nat) (ps:List (ByteArray×Bool)),hk=.int .i64 m/\m<=2/\pn+m<=2/\(i=0->ps=[])/\(i≠0->ps.map (·.1)++fh m=fh hq)/\cp bp (S.heap.size+1) A n c l/\Fr (λb=>b=S.heap.size+1) T bp/\ao bp (T.heap.size+1) 137 #[.string (jI i),.slice PA pn pc,.slice none 0 0]/\Gr (λ_=>False) (T.heap.size+1+1) 173 2 bp PA pn pc (ps.map cz)) (λhk _=>(intOf hk).toNat)
    case atStart=>exact⟨hq,none,0,0,[],rfl,bQ,ad,λ_=>rfl,λ_=>rfl,bM.1,bM.2.1,bM.2.2,Gr.nil _ _ _ _ _⟩
    case round=>
     obtain⟨m,PA,pn,pc,ps,rfl,ay,c0,hm,hn,hF⟩:=hrel;clear bM;have bT:=ae hF;have gS:=ah hm hn;have hP:=cj.next hF.1 hF.2.1;obtain⟨a0,ak,af⟩:=hP.blk.two;obtain⟨f0,dQ,eW⟩:=hF.2.2.1.two;have hy:=ae hP;clear hF hm hn hP;by_cases ap:0<m/\0<i
     .obtain⟨hj,ct⟩:=ap;have q1:decide ((m:Int) > 0)=true:=by simp;omega
      have cO:decide ((i:Int) > 0)=true:=by simp;omega
      have iv:(m:Int)<=2:=ad;have cy:¬S.heap.size+1+1=S.heap.size+1:=ad;have b0:S.heap.size+1+1<wr.heap.size:=hy.blk.lt;clear f0 dQ eW;go_upto_region 29 with(fail);exact AD
     .have b3:(¬0<m)\/((0<m)/\¬0<i):=by
       by_cases ac:0<m
       .exact .inr ⟨ac,λh=>ap ⟨ac,h⟩⟩
       .exact .inl ac
      have ho:∃bn,bn<=2/\ps.map (·.1)=fh bn:=by
       by_cases ac:i=0
       .exact⟨0,ad,by rw[gS.1 ac];rfl⟩
       .have ax:m=0:=by
         by_cases a1:0<m
         .exact absurd ⟨a1,ad⟩ ap
         .omega
        have a1:=gS.2 ac;rw[ax] at a1;exact⟨hq,bQ,by simpa[fh] using a1⟩
      have h4:=ae ho;clear ap ho;rcases b3 with q1|⟨q1,cO⟩
      ·
       exact GW
      ·
       exact GW
  .have aU:¬(i:Int)<=(N:Int):=ad;go_upto_region 32 with(fail);have c3:=gW.o _ _ (by assumption) (by assumption);unfold Fy at c3;exact c3 u A n c l ar MA mn mc M GA gn gc G av a7 FA i fc F T ad cj.o
theorem rk.lR{G:List (ByteArray×Int)}{M:List bL}{F:List aG}(aY:sw G)(cu:G.length<=2)(hm:nt M)(bY:1<=M.length/\M.length<=4)(J:∀i f,F[i]?=some f->f.name=jI i/\(∃n,n<=2/\f.params.map (·.1)=fh n)/\(i=0->f.params=[]))(cr:1<=F.length/\F.length<=4):gL ⟨G,M,F⟩:=
 ⟨cu,bY,cr,aY,hm,J⟩
theorem EV{F:List aG}{i:Nat}(J:F[i]?=some f)(b:al):(F.set i {f with body:=b}).map (λf=>(f.name,f.params))=F.map λf=>(f.name,f.params):=by
 exact Hm
theorem zv{F:List aG}{i:Nat}(J:F[i]?=some f)(b:al):(F.set i {f with body:=b}).map (·.name)=F.map (·.name):=by
 exact Hm
structure vB(G:List (ByteArray×Int))(M:List bL)(F:List aG)(k L:Nat):Prop where
 lR:∀i f,F[i]?=some f->f.name=jI i/\(∃n,n<=2/\f.params.map (·.1)=fh n)/\(i=0->f.params=[])
 made:∀i f,F[i]?=some f->i<k->fk (gN ⟨G,M,F⟩ f) 2 (fW ⟨G,M,F⟩++cC f.params) (bh ⟨G,M,F⟩++f.params.map (·.1)) f.body
 bT:∀i f,F[i]?=some f->k<=i->f.body=.nil
 num:(F.map λf=>f.body.num).sum+2*L<=48
theorem rk.start{G:List (ByteArray×Int)}{M:List bL}{F:List aG}(h:rk F):vB G M F 0 24:=by
 refine⟨λi f J=>⟨(h i f J).1,(h i f J).2.1,(h i f J).2.2.1⟩,λi f _ al=>ad,λi f J _=>(h i f J).2.2.2,?_⟩;have h0:(F.map λf=>f.body.num).sum=0:=by
  have ac:F.map (λf=>f.body.num)=F.map λ_=>0:=List.map_congr_left λf J=>by
   obtain⟨i,al⟩:=List.getElem?_of_mem J;rw[(h i f al).2.2.2];rfl
  rw[ac];clear ac h
  induction F with
  | nil=>rfl
  | cons f F aq=>simpa using aq
 omega
theorem GD{F:List aG}:∀{i:Nat} {f:aG},F[i]?=some f->f.body=.nil->((F.set i {f with body:=b}).map λf=>f.body.num).sum=(F.map λf=>f.body.num).sum+b.num:=by
 induction F with
 | nil=>intro i f J;simp at J
 | cons g F aq=>
  intro i f J hn
  cases i with
  | zero=>
   simp at J;subst J;simp[hn,al.num]
   omega
  | succ i=>
   simp at J;have:=aq (i:=i) J hn;simp only[List.set_cons_succ,LI,List.sum_cons,this];omega
theorem vB.next{G:List (ByteArray×Int)}{M:List bL}{F:List aG}{k L R:Nat}(h:vB G M F k L)(J:F[k]?=some f){ls:List az}(hm:Made (gN ⟨G,M,F⟩ f) 2 (fW ⟨G,M,F⟩++cC f.params) (bh ⟨G,M,F⟩++f.params.map (·.1)) L R ls):
  vB G M (F.set k {f with body:=.eT ls}) (k+1) R:=by
 have hs:=EV J (.eT ls);have hn:=zv J (.eT ls);have ap:=(List.getElem?_eq_some_iff.1 J).1;have hG:∀g,gN ⟨G,M,F.set k {f with body:=.eT ls}⟩ g=gN ⟨G,M,F⟩ g:=λg=>by simp only[gN,sigs,hs]
 have hT:bh ⟨G,M,F.set k {f with body:=.eT ls}⟩=bh ⟨G,M,F⟩:=by simp only[bh,fW,hn]
 have E:∀i g,(F.set k {f with body:=.eT ls})[i]?=some g->(i=k/\g={f with body:=.eT ls})\/(i≠k/\F[i]?=some g):=λi g aY=>by
  by_cases al:k=i
  .subst al;rw[List.getElem?_set_self ap] at aY;injection aY with aY;exact .inl ⟨rfl,aY.symm⟩
  .rw[List.getElem?_set_ne al] at aY;exact .inr ⟨λh=>al h.symm,aY⟩
 refine⟨λi g aY=>?_,λi g aY al=>?_,λi g aY al=>?_,?_⟩
 .rcases E i g aY with⟨rfl,rfl⟩|⟨_,ax⟩
  .exact h.lR _ f J
  .exact h.lR _ _ ax
 .rw[hG,hT];rcases E i g aY with⟨rfl,rfl⟩|⟨ac,ax⟩
  .exact hm.wf
  .exact h.made i g ax ad
 .rcases E i g aY with⟨rfl,rfl⟩|⟨ac,ax⟩
  .omega
  .exact h.bT i g ax ad
 .rw[GD J (h.bT k f J (Lz _))];have ac:=hm.num;have ax:=hm.le;have a1:=h.num;omega
theorem vB.wf{G:List (ByteArray×Int)}{M:List bL}{F:List aG}{L:Nat}(h:vB G M F F.length L)(aY:sw G)(cu:G.length<=2)(hm:nt M)(bY:1<=M.length/\M.length<=4)(cr:1<=F.length/\F.length<=4):pB ⟨G,M,F⟩:=by
 refine(rk.lR aY cu hm bY h.lR cr).wf (λf J=>?_) (by have:=h.num;simp only;omega);obtain⟨i,al⟩:=List.getElem?_of_mem J;have ap:=(List.getElem?_eq_some_iff.1 al).1;exact di _ 2 4 _ _ _ _ (λ_ h=>h) (λ_ _ h=>h) ad (h.made i f al ap)
theorem me{w:World}{cs:List Value}:(dy f).rep w P cs↔∃(A:Mk) (n c:Nat) (A2:Mk) (n2 c2:Nat),cs=[.string f.name,.slice A n c,.slice A2 n2 c2]/\n<=c/\Sl w P A n (f.params.map cz)/\n2<=c2/\Sl w P A2 n2 (c7 f.body):=by
 unfold dy;rw[bJ,ct];constructor
 .rintro⟨y,rfl,h⟩;obtain⟨A,n,c,cm,rfl,hc,hs,h⟩:=aL.1 h;obtain⟨A2,n2,c2,bv,rfl,cf,bP,h⟩:=aL.1 h;rw[aQ] at h;subst h;exact⟨A,n,c,A2,n2,c2,rfl,hc,hs,cf,bP⟩
 .rintro⟨A,n,c,A2,n2,c2,rfl,hc,hs,cf,bP⟩;exact⟨_,rfl,aL.2 ⟨A,n,c,_,rfl,hc,hs,aL.2 ⟨A2,n2,c2,[],rfl,cf,bP,aQ.2 rfl⟩⟩⟩
theorem rR(f:aG):(dy f).sz=3:=rfl
theorem sc{w:World}{P:Nat->Prop}{b:al}{bH:Mk}{on bB:Nat}(hc:on<=bB)(cg:Sl w P bH on (c7 b)):∀(F:List aG) (i:Nat) (xs:List Value) (f:aG),D.aO w P (F.map dy) xs->F[i]?=some f->D.aO w P ((F.set i {f with body:=b}).map dy) (xs.set (i*3+2) (.slice bH on bB))
 | [],i,xs,f,h,J=>by simp at J
 | x::F,0,xs,f,h,J=>by
  simp only[List.getElem?_cons_zero,Mb] at J;subst J;rw[LI] at h;obtain⟨j,d,rfl,hx,bb⟩:=g0.1 h;obtain⟨A,n,c,A2,n2,c2,rfl,ac,ax,_,_⟩:=me.1 hx;rw[List.set_cons_zero,LI]
  exact g0.2 ⟨[.string x.name,.slice A n c,.slice bH on bB],d,rfl,me.2 ⟨A,n,c,bH,on,bB,rfl,ac,ax,hc,cg⟩,bb⟩
 | x::F,i+1,xs,f,h,J=>by
  rw[List.getElem?_cons_succ] at J;rw[LI] at h;obtain⟨j,d,rfl,hx,bb⟩:=g0.1 h;have hl:=(D.lG _ _ hx).trans (rR x);have aq:=sc hc cg F i d f bb J;rw[List.set_cons_succ,LI,List.set_append_right _ _ ad,hl,show (i+1)*3+2 - 3=i*3+2 by omega];exact g0.2 ⟨_,_,rfl,hx,aq⟩
theorem Gr.Ko{w:World}{n c i:Nat}{F:List aG}{bH:Mk}{on bB:Nat}(h:Gr P B e 3 w (some ⟨g,0,none⟩) n c (F.map dy))(J:F[i]?=some f)(hc:on<=bB)(cg:Sl w (ly P w (.slice (some ⟨g,0,none⟩) n c)) bH on (c7 b)):
  Gr P B e 3 (w.setCell ⟨g,i*3+2,none⟩ (.slice bH on bB)) (some ⟨g,0,none⟩) n c ((F.set i {f with body:=b}).map dy):=by
 obtain⟨hl,xs,ac,ax⟩:=h;have b3:Fr (λb=>b=g) w (w.setCell ⟨g,i*3+2,none⟩ (.slice bH on bB)):=(Fr.refl (λb=>b=g) w).setCell (.inl rfl) _;have hs:=b3.size;have az:=(List.getElem?_eq_some_iff.1 J).1;refine⟨by simpa using hl,xs.set (i*3+2) (.slice bH on bB),⟨by rw[List.length_set];exact ac.1,?_⟩,?_⟩
 .rcases ac.2 with⟨bG,_⟩|⟨ah,cap,cur,bG,O,aY,hn,bV,U,ht⟩
  .cases bG
  .injection bG with br _ Z;injection br with br;injection br with br;subst br;refine .inr ⟨g,cap,cur.setIfInBounds (i*3+2) (.slice bH on bB),by rw[Z],O,ao.aJ (show ao w g e cur from aY) (i*3+2) _,hn,bV,by simpa using U,?_⟩;rw[Array.toList_setIfInBounds,List.take_set,ht]
 .refine D.bV (λb O=>⟨O.1,LC O.2.1 hs,O.2.2⟩) _ _ (D.bU (λb O=>b3.block b O.2.1 λj=>O.2.2 ?_) _ _ (sc hc cg F i xs f ax J));subst j;rfl
theorem Gr.JV{w:World}{n c:Nat}{A:Mk}{l:List D}(h:Gr P B e z w A n c l)(hn:0<n):∃g,A=some ⟨g,0,none⟩/\B<=g/\g<w.heap.size:=by
 obtain⟨_,xs,ac,_⟩:=h;rcases ac.2 with⟨_,h0⟩|⟨g,cap,cur,bG,O,aY,_⟩
 .omega
 .injection bG with bG _ _;exact⟨g,bG,O,(Array.getElem?_eq_some_iff.1 aY).1⟩
structure oZ(S:World)(u:Nat)(A:Mk)(n c:Nat)(l:List Int)(ar:Bool)(MA:Mk)(mn mc:Nat)(M:List bL)(GA:Mk)(gn gc:Nat)(G:List (ByteArray×Int))(av:Mk)(a7:Nat)(fg fn fc:Nat)(w:World)(F:List aG)(i L:Nat):Prop where
 src:cp w (S.heap.size+1) A n c l
 blk:ao w (S.heap.size+1+1) 169 #[.pointer (some ⟨S.heap.size+1,0,none⟩),.slice GA gn gc,.slice MA mn mc,.slice (some ⟨fg,0,none⟩) fn fc,.int .i64 L,.bool ar]
 res:ao w S.heap.size 70 #[.slice none 0 0,.slice none 0 0,.slice none 0 0]
 ms:Sl w (λb=>S.heap.size+1+1+1<=b/\b<u) MA mn (M.map eC)
 gs:Sl w (λb=>S.heap.size+1+1+1<=b/\b<u) GA gn (G.map iI)
 vs:Sl w (λb=>S.heap.size+1+1+1<=b/\b<u) av gn ((G.map (·.1)).map D.s)
 fs:Gr (λb=>u<=b) u 137 3 w (some ⟨fg,0,none⟩) fn fc (F.map dy)
 mc:mn<=mc
 gc:gn<=gc
 nm:1<=mn/\mn<=4
 ok:nt M
 ng:gn<=2
 zF:sw G
 nf:1<=fn/\fn<=4
 bd:vB G M F i L
 kR:L<=24
 ext:Ext S w
 hD:S.heap.size+1+1+1<=u/\u<=w.heap.size
section
variable {S w ab:World} {u:Nat} {A:Mk} {n c:Nat} {l:List Int} {ar:Bool} {MA:Mk} {mn mc:Nat} {M:List bL} {GA:Mk} {gn gc:Nat} {G:List (ByteArray×Int)} {av:Mk} {a7:Nat} {FA:Mk} {fg fn fc:Nat} {F:List aG} {i L R:Nat}
theorem zM.Kh(h:zM S u w A n c l ar MA mn mc M GA gn gc G av a7 FA fn fc F)(hn:1<=fn):∃fg,FA=some ⟨fg,0,none⟩/\oZ S u A n c l ar MA mn mc M GA gn gc G av a7 fg fn fc w F 0 24:=by
 obtain⟨fg,rfl,_⟩:=h.fs.JV ad;exact⟨fg,rfl,h.src,h.blk,h.res,h.ms,h.gs,h.vs,h.fs,h.mc,h.gc,h.nm,h.ok,h.ng,h.zF,⟨hn,h.nf⟩,h.J2.start,Lz _,h.ext,h.hD⟩
theorem oZ.len(h:oZ S u A n c l ar MA mn mc M GA gn gc G av a7 fg fn fc w F i L):F.length=fn/\M.length=mn/\G.length=gn:=⟨by have:=h.fs.len;simpa using this,by have:=h.ms.1;simpa using this,by have:=h.gs.1;simpa using this⟩
theorem oZ.own(h:oZ S u A n c l ar MA mn mc M GA gn gc G av a7 fg fn fc w F i L):u<=fg/\fg<w.heap.size:=h.fs.lt rfl
theorem oZ.jf(h:oZ S u A n c l ar MA mn mc M GA gn gc G av a7 fg fn fc w F i L):∀f∈F,f.params.length<=2:=λf J=>by
 obtain⟨i,al⟩:=List.getElem?_of_mem J;obtain⟨n,hn,hp⟩:=(h.bd.lR i f al).2.1;have:=congrArg List.length hp;rw[LG,mw] at this;omega
theorem oZ.aj(h:oZ S u A n c l ar MA mn mc M GA gn gc G av a7 fg fn fc w F i L)(O:Ext w ab):oZ S u A n c l ar MA mn mc M GA gn gc G av a7 fg fn fc ab F i L:=by
 have hD:=h.hD;have aj:∀b,(S.heap.size+1+1+1<=b/\b<u)->ab.heap[b]?=w.heap[b]?:=λb hp=>O.block b (aB hp.2) (λh=>h);exact⟨h.src.cT O λ_ _ h=>h,h.blk.aj O,h.res.aj O,h.ms.ak aj,h.gs.ak aj,h.vs.ak aj,h.fs.aj O,h.mc,h.gc,h.nm,h.ok,h.ng,h.zF,h.nf,h.bd,h.kR,h.ext.trans O,hD.1,by have:=O.size;omega⟩
theorem oZ.wr(h:oZ S u A n c l ar MA mn mc M GA gn gc G av a7 fg fn fc w F i L):gH w ⟨S.heap.size+1,S.heap.size+1+1,A,n,c,l,GA,gn,gc,MA,mn,mc,some ⟨fg,0,none⟩,fn,fc,M,F,ar⟩ L:=by
 have hD:=h.hD;exact⟨h.src,h.blk,Nat.lt_succ_self _,h.ms.mono λb O=>⟨ad,λhm=>by rcases hm with hm|hm<;>(simp only at hm;omega)⟩,h.fs.sl (λb O hp=>⟨O,λhm=>by rcases hm with hm|hm<;>(simp only at hm;omega)⟩) (λb O hp=>⟨O,λhm=>by rcases hm with hm|hm<;>(simp only at hm;omega)⟩),h.nm,h.nf,
  λm hm=>by obtain⟨k,aj⟩:=List.getElem?_of_mem hm;exact⟨(h.ok k m aj).2.1,(h.ok k m aj).2.2.1⟩,h.jf,h.kR⟩
theorem oZ.lR(h:oZ S u A n c l ar MA mn mc M GA gn gc G av a7 fg fn fc w F i L):gL ⟨G,M,F⟩:=rk.lR h.zF (nz h.len.2.2 h.ng) h.ok (nz h.len.2.1 h.nm) h.bd.lR (nz h.len.1 h.nf)
theorem oZ.body(h:oZ S u A n c l ar MA mn mc M GA gn gc G av a7 fg fn fc w F i L){f:aG}(J:F[i]?=some f){ls:List az}{bH:Mk}{on bB:Nat}
  (hw:gH ab ⟨S.heap.size+1,S.heap.size+1+1,A,n,c,l,GA,gn,gc,MA,mn,mc,some ⟨fg,0,none⟩,fn,fc,M,F,ar⟩ R) (O:Fr (λb=>b=S.heap.size+1\/b=S.heap.size+1+1) w ab)
  (hm:Made (gN ⟨G,M,F⟩ f) 2 (fW ⟨G,M,F⟩++cC f.params) (bh ⟨G,M,F⟩++f.params.map (·.1)) L R ls) (hc:on<=bB) (hs:Sl ab (fresh w ab) bH on (ls.map bg)) :
  oZ S u A n c l ar MA mn mc M GA gn gc G av a7 fg fn fc (ab.setCell ⟨fg,i*3+2,none⟩ (.slice bH on bB)) (F.set i {f with body:=.eT ls}) (i+1) R:=by
 have hD:=h.hD;have bn:=h.own;have U:=O.size;have ay:Fr (λb=>b=fg) ab (ab.setCell ⟨fg,i*3+2,none⟩ (.slice bH on bB)):=(Fr.refl (λb=>b=fg) ab).setCell (.inl rfl) _;have bD:=ay.size;have aj:∀b,(S.heap.size+1+1+1<=b/\b<u)->(ab.setCell ⟨fg,i*3+2,none⟩ (.slice bH on bB)).heap[b]?=w.heap[b]?:=λb hp=>(ay.block b (aB hp.2) (aB hp.2)).trans (O.block b (aB hp.2) λag=>by have:=hp.1;rcases ag with ag|ag<;>omega);have aY:Gr (λb=>u<=b) u 137 3 ab (some ⟨fg,0,none⟩) fn fc (F.map dy):=h.fs.cS O λb hm _=>by rcases hm with hm|hm<;>exact⟨ad,ad⟩
 have aL:Ext S ab:=Fr.low (M:=λb=>b=S.heap.size+1\/b=S.heap.size+1+1) ((h.ext.mono λ_ h=>h.elim).trans O) λk aj=>by rcases aj with aj|aj<;>omega
 refine⟨hw.src.cT ay λb ap ag=>by simp only at ap;omega,hw.blk.on ay (by show ¬S.heap.size+1+1=fg;omega),(h.res.on O ad).on ay ad,h.ms.ak aj,h.gs.ak aj,h.vs.ak aj,?_,h.mc,h.gc,h.nm,h.ok,h.ng,h.zF,h.nf,h.bd.next J hm,hw.kR,
  Fr.low (M:=λb=>b=fg) ((aL.mono λ_ h=>h.elim).trans ay) λk aj=>by have:=h.ext.size;omega,hD.1,ad⟩
 refine aY.Ko J hc ?_;rw[mP];exact hs.mono λb O=>⟨by have:=O.1;omega,O.2,λh=>by injection h with h;have:=O.1;simp only at h;omega⟩
theorem oZ.done(h:oZ S u A n c l ar MA mn mc M GA gn gc G av a7 fg fn fc w F fn L):pB ⟨G,M,F⟩:=by
 have hl:=h.len;have O:=h.bd;rw[<-hl.1] at O;exact O.wf h.zF (aB h.ng) h.ok (aB h.nm) (aB h.nf)
end
structure RW(s:Nat)(v0 v1 v2 bx bn:Value)(w ab:World):Prop where
 fr:Fr (λb=>b=s\/b=s+1) w ab
 wb:∀L:Int,ao w (s+1) 169 #[v0,v1,v2,bx,.int .i64 L,bn]->∃R:Int,ao ab (s+1) 169 #[v0,v1,v2,bx,.int .i64 R,bn]
theorem RW.refl{s:Nat}{v0 v1 v2 bx bn:Value}(w:World):RW s v0 v1 v2 bx bn w w:=⟨Mg,λL h=>⟨L,h⟩⟩
theorem RW.trans{s:Nat}{v0 v1 v2 bx bn:Value}{w ab aW:World}(h:RW s v0 v1 v2 bx bn w ab)(k:RW s v0 v1 v2 bx bn ab aW):RW s v0 v1 v2 bx bn w aW:=⟨h.fr.trans k.fr,λL O=>by
 obtain⟨a9,ac⟩:=h.wb L O;exact k.wb a9 ac⟩
theorem Fj(p:kz)(L:Nat)(V T:Ml)(N:Mk)(bn aq:Nat)(bc:ByteArray)(ps:List (ByteArray×Bool))(QA:Mk)(b8 qc:Nat)(br:Value)(w:World)(hw:gH w p L)(hN:Sl w (off p.MW w) N bn (V.map D.s))(hV:V.length+L<=60)(J:mG T L)
  (cl:Sl w (off p.MW w) QA b8 (ps.map cz)) (bv:b8<=2):Calls prog 96 #[.pointer (some ⟨p.wb,0,none⟩),.agg #[.string bc,.slice QA b8 qc,br],.slice N bn aq,.int .i64 2,.int .i64 6] w (GO p 2 V T ps L w):=
 xw p L 2 6 V T N bn aq bc ps QA b8 qc br w ad ad hw hN hV J cl bv
structure Fu(fg i:Nat)(f:aG)(QA:Mk)(b8 qc:Nat)(fD:Mk)(bn bc:Nat)(w:World):Prop where
 c0:w.cell? ⟨fg,i*3,none⟩=some (.string f.name)
 c1:w.cell? ⟨fg,i*3+1,none⟩=some (.slice QA b8 qc)
 c2:w.cell? ⟨fg,i*3+2,none⟩=some (.slice fD bn bc)
theorem Fu.ak{fg i:Nat}{QA:Mk}{b8 qc:Nat}{fD:Mk}{bn bc:Nat}{w ab:World}(h:Fu fg i f QA b8 qc fD bn bc w)(aj:ab.heap[fg]?=w.heap[fg]?):Fu fg i f QA b8 qc fD bn bc ab:=
 ⟨(World.cell?_of_block (w:=w) aj).trans h.c0,(World.cell?_of_block (w:=w) aj).trans h.c1,(World.cell?_of_block (w:=w) aj).trans h.c2⟩
theorem oZ.Jn{S w:World}{u:Nat}{A:Mk}{n c:Nat}{l:List Int}{ar:Bool}{MA:Mk}{mn mc:Nat}{M:List bL}{GA:Mk}{gn gc:Nat}{G:List (ByteArray×Int)}{av:Mk}{a7:Nat}{fg fn fc:Nat}{F:List aG}{i L:Nat}
  (h:oZ S u A n c l ar MA mn mc M GA gn gc G av a7 fg fn fc w F i L) (al:i<fn):∃(f:aG) (QA:Mk) (b8 qc:Nat) (fD:Mk) (bn bc:Nat),F[i]?=some f/\b8<=2/\b8<=qc/\Sl w (λb=>u<=b/\b<w.heap.size) QA b8 (f.params.map cz)/\Fu fg i f QA b8 qc fD bn bc w:=by
 obtain⟨ch,dc,f,cs,I,cA,r,aQ,bq,hc⟩:=Sl.g9 (z:=3) (h.fs.sl (Q:=λb=>u<=b/\b<w.heap.size) (λb ap h=>⟨h,ap⟩) (λb ap h=>⟨h,ap⟩)) (λ_=>rR _) al;obtain⟨QA,b8,qc,fD,bn,bc,rfl,b0,dx,_,_⟩:=me.1 aQ;injection I with I;injection I with ac ax a1;subst ac;subst ax;have bv:b8<=2:=by
  have aU:=h.jf f (LF r);have cy:=dx.1;rw[LG] at cy;omega
 have c0:=hc 0 _ rfl;have c1:=hc 1 _ rfl;have c2:=hc 2 _ rfl;simp only[LW,LM] at c0 c1 c2;exact⟨f,QA,b8,qc,fD,bn,bc,r,bv,b0,dx,c0,c1,c2⟩
theorem Gr.JU{w:World}{n c:Nat}{l:List D}(h:Gr P B e z w (some ⟨g,0,none⟩) n c l):∃cur,ao w g e cur:=by
 obtain⟨_,xs,ac,_⟩:=h;rcases ac.2 with⟨bG,_⟩|⟨ah,cap,cur,bG,O,aY,_⟩
 .cases bG
 .injection bG with bG _ _;injection bG with bG;injection bG with bG;subst bG;exact⟨cur,aY⟩
theorem ru{ps:List (ByteArray×Bool)}{j:Nat}{q:ByteArray×Bool}(h:ps[j]?=some q):cC (ps.take (j+1))=cC (ps.take j)++(if q.2 then [] else [q.1]):=by
 unfold cC;rw[List.take_add_one,h];obtain⟨x,b⟩:=q;cases b<;>simp
theorem s9(ps:List (ByteArray×Bool)):(cC ps).length<=ps.length:=by
 unfold cC;rw[LG];exact List.length_filter_le _ _
theorem oZ.Kl{S w ab:World}{u:Nat}{A:Mk}{n c:Nat}{l:List Int}{ar:Bool}{MA:Mk}{mn mc:Nat}{M:List bL}{GA:Mk}{gn gc:Nat}{G:List (ByteArray×Int)}{av:Mk}{a7:Nat}{fg fn fc:Nat}{F:List aG}{L:Nat}
  (h:oZ S u A n c l ar MA mn mc M GA gn gc G av a7 fg fn fc w F fn L) (O:Fr (λb=>b=S.heap.size) w ab):kq S (.returned (.agg #[.slice GA gn gc,.slice MA mn mc,.slice (some ⟨fg,0,none⟩) fn fc])) ab:=by
 have hD:=h.hD;have hs:=O.size;have aj:∀b,(S.heap.size+1+1+1<=b/\b<u)->ab.heap[b]?=w.heap[b]?:=λb hp=>O.block b (aB hp.2) (aB hp.1);have bu:Gr (λb=>u<=b) u 137 3 ab (some ⟨fg,0,none⟩) fn fc (F.map dy):=h.fs.cS O λb hm _=>⟨ad,ad⟩
 exact⟨⟨G,M,F⟩,GA,gn,gc,MA,mn,mc,_,fn,fc,rfl,h.done,h.gc,h.mc,h.fs.cap.1,(h.gs.ak aj).mono λb hp=>⟨by have:=hp.1;omega,by have:=hp.2;omega⟩,(h.ms.ak aj).mono λb hp=>⟨by have:=hp.1;omega,by have:=hp.2;omega⟩,
  bu.sl (λb ap hp=>⟨ad,ap⟩) (λb ap hp=>⟨ad,ap⟩),Fr.low (M:=λb=>b=S.heap.size) ((h.ext.mono λ_ h=>h.elim).trans O) λk aj=>ad⟩
end Go.Proofs.YtflecliffjbleaaGreat

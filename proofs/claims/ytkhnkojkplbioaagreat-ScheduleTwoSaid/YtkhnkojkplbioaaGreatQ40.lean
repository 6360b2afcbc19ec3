/- Part 40 of the proof. No condition of its own. -/
import Derived.Test.YtkhnkojkplbioaaGreatQ39
namespace Go.Proofs.YtkhnkojkplbioaaGreat
open Go.RowKit Go.Proofs.Tryz
set_option maxRecDepth 1000000
set_option maxHeartbeats 25600000
set_option linter.unusedVariables false
variable{B g z:Nat}{P:Nat->Prop}{p:Prop}{e:TypeId}{f:aK}{b:an}
namespace Dj
theorem eU(h:p:=by
 refine b9 ?_;generalize bF:World.setCell _ _ _=hO;have hf:wr.heap.size<=az:=ad;obtain⟨bK,bt,bR⟩:=dY (M:=λb=>b=S.heap.size+1) [.string ((⟨#[112]⟩:ByteArray)++strOf [byteOf bv]),.bool _] (by rfl) bC ai hf bF;obtain⟨ht,bK⟩:∃ht,aq hO az 159 #[.string ((⟨#[112]⟩:ByteArray)++strOf [byteOf bv]),.bool ht]:=⟨_,bK⟩
 rw[EO ad aG.o] at bK;have iy:=cq.blk.lt;have ir:=bX.2.2.1.lt;have a8:=cJ (ay.cS bR λb O h=>ad) (bX.2.1.trans bt) (bX.2.2.1.on bt ad) (bX.2.2.2.c8 bt (λb O _=>⟨λh=>h,ad⟩)) bK;have ak:cK.heap.size+1+1<=hO.heap.size:=by have:=bt.size;omega
 clear bF bK bt bR ay ai bC bx a5 aT;obtain⟨f0,dL,dO⟩:=a8.2.2.1.two;obtain⟨bx,a5,aT⟩:=a8.2.2.2.2.two;go_wp2_with(at_builtin;refine bT HW rfl (.tmp 167) (.tmp 169) rfl a8.2.2.2.1 (tD.2 rfl:(dv (uV m,ht)).rep hO _ _) rfl rfl rfl ad ad ak ?_;intro iq hg hT hR b7 h7 h6;have gr:=a8.2.2.1.on b7 (λO=>by have:=(a8.2.2.2.1.lt O).1;omega);have gW:=ag hR b7;clear f0 dL dO hR b7 h7 h6 bx a5 aT;obtain⟨f0,dL,dO⟩:=gr.two;clear gr);generalize hX:World.setCell _ _ _=hS;have bp:∀b,(Value.slice PA pn pc).ownBlock=some b->cK.heap.size+1+1<=b:=λb O=>(a8.2.2.2.1.lt O).1;have dR:=cO hX;have bf:aq hS (cK.heap.size+1) 157 #[.string (jE i),.slice iq (pn+1) hg,.slice none 0 0]:=hX▸(a8.2.2.1.on gW.2 (λO=>by have:=bp _ O;omega)).aM 1 _;have eQ:=(a8.1.cS gW.2 λb O h=>by have:=bp b h;omega).cS dR λb O h=>ad;have L:Fr (λb=>b=S.heap.size+1) cK hS:=(a8.2.1.eR (gW.2.below a8.2.1.size λk ap h=>by have:=bp k h;omega)).eR (dR.below (lY a8.2.1.size gW.2.size) λk ap h=>ad);have hm:=gW.1.c8 dR λb O _=>⟨λh=>h,ad⟩
 have hh:=bJ eQ L bf hm;clear hX dR bf eQ L hm f0 dL dO bp;obtain⟨bP,aQ⟩:∃bP,m=bP+1:=⟨m - 1,ad⟩
 have dE:(m:Int) - 1=((bP:Nat):Int):=ad;go_roundw
 case rel=>
  refine⟨bP,iq,pn+1,hg,ps++[(uV m,ht)],by first|(rw[dE])|(congr 1)|go_num,ad,ad,λh=>ad,λh=>?_,hh.1,hh.2.1,hh.2.2.1,by rw[Lr];exact hh.2.2.2⟩;have ac:=gO.2 h;rw[aQ] at ac;rw[aQ,<-ac];simp[e4]
 case measure=>exact aH
 ):p:=h
theorem Ay(h:p:=by
 generalize hc:IntKind.u8.wrap (IntKind.i64.wrap (48+(m:Int)))=bv;obtain⟨bY,hP⟩:∃bY,bY=wr.heap.size:=⟨_,rfl⟩
 have aG:=ae hc;clear hc;have hq:(strOf [byteOf bv]).size=1:=aO _;have U:=ag bX.1 (Fr.refl (λb=>b=S.heap.size+1) wr);refine g0 (P:=?_) (ops:=?_) (Q:=?_) (R:=?_) (tails:=?_) (rest:=.pick [14] (λ_=>.stop)) (aa:=?_)
  (C:=λ(a3 az j:Nat) bD=>cn bD (S.heap.size+1) A n c l/\Fr (λb=>b=S.heap.size+1) wr bD/\aq bD az 159 #[.string ⟨#[]⟩,.bool false]/\bY<=az/\j<3) (λkey=>?_) ?_
 rotate_left 6
 ·
  refine q3 ?_ ?_ ?_
  ·
   refine dT ?_;refine bB (λV=>Ext wr V/\aq V wr.heap.size 5 #[.int .u8 bv]) ⟨(LW.alloc _).drew,LX⟩ (λc0 hV=>?_);have aI:=ag (U.1.cS hV.1 λ_ _ h=>h) (U.2.trans (hV.1.mono λ_ h=>h.elim));have h8:wr.heap.size<=wr.heap.size:=U.2.size;have b4:=ae hV.2;clear hV;obtain⟨e0,a6,aP⟩:=b4.two;refine cz (v:=?_) rfl (by rfl) (λV hV=>?_) ?_;rotate_left
   .have b6:=fy V (wr.heap.size) bv ((hV.cell aP ad).trans (e0 0))
    (go_simp<;>with_reducible rfl)
   try simp only[PU]
   clear e0 a6 aP;refine tf ?_;refine a2 ?_ ?_
   ·
    refine aB rfl (λK hK=>?_) rfl;go_simp;refine(a9 _ (S.heap.size+1) A n c l 3 (aI.1.cS (M:=λ_=>False) LW (λ_ _ h=>h)) ad ad).mono ?_;rintro e c1 ⟨bZ,rfl,bz,O,h,he⟩;obtain⟨j,rfl⟩:=Lp bz;have bi:j<3:=ad;have ai:Fr (λb=>b=S.heap.size+1) c0 c1:=he.fr;have ca:=ag h (aI.2.trans ai);have hv:=ae (b4.on ai ad);refine dq hK (he.fr) ?_;clear hK K;clear h he ai bz O
    iterate 2 refine tf ?_
    refine ao ?_;refine dT ?_;refine bB (λV=>Ext c1 V/\aq V c1.heap.size 159 #[.string ⟨#[]⟩,.bool false]) ⟨LW.alloc _,LX⟩ (λiz hV=>?_);have gZ:=ag (ca.1.cS hV.1 λ_ _ h=>h) (ca.2.trans (hV.1.mono λ_ h=>h.elim));have h9:wr.heap.size<=c1.heap.size:=ca.2.size;have hA:=ae hV.2;have h0:=ae (hv.aj hV.1);clear hV;have ah:=And.intro gZ.1 (And.intro gZ.2 (And.intro hA.o (And.intro (show bY<=c1.heap.size by omega) bi)));revert ah;generalize wr.heap.size=a3;generalize c1.heap.size=az;intro ah;exact key a3 az j _ ah
   ·
    refine dT ?_;refine bB (λV=>Ext c0 V/\aq V c0.heap.size 159 #[.string ⟨#[]⟩,.bool false]) ⟨LW.alloc _,LX⟩ (λik hV=>?_);have g1:=ag (aI.1.cS hV.1 λ_ _ h=>h) (aI.2.trans (hV.1.mono λ_ h=>h.elim));have ia:wr.heap.size<=c0.heap.size:=aI.2.size;have hB:=ae hV.2;have hw:=ae (b4.aj hV.1);clear hV;refine ao ?_;refine aB rfl (λK hK=>?_) rfl;go_simp;refine(a9 _ (S.heap.size+1) A n c l 3 (g1.1.cS (M:=λ_=>False) LW (λ_ _ h=>h)) ad ad).mono ?_;rintro e il ⟨bZ,rfl,bz,O,h,he⟩;obtain⟨j,rfl⟩:=Lp bz;have bi:j<3:=ad;have ai:Fr (λb=>b=S.heap.size+1) ik il:=he.fr;have g2:=ag h (g1.2.trans ai);have h1:=ae (hw.on ai ad);have hC:=ae (hB.on ai ad);refine dq hK (he.fr) ?_;clear hK K;clear h he ai bz O
    iterate 2 refine tf ?_
    have ah:=And.intro g2.1 (And.intro g2.2 (And.intro hC.o (And.intro (show bY<=c0.heap.size by omega) bi)));revert ah;generalize wr.heap.size=a3;generalize c0.heap.size=az;intro ah;exact key a3 az j _ ah
  ·
   refine aB rfl (λK hK=>?_) rfl;go_simp;refine(a9 _ (S.heap.size+1) A n c l 3 (U.1.cS (M:=λ_=>False) (LW.drew) (λ_ _ h=>h)) ad ad).mono ?_;rintro e aA ⟨bZ,rfl,bz,O,h,he⟩;obtain⟨j,rfl⟩:=Lp bz;have bi:j<3:=ad;have ai:Fr (λb=>b=S.heap.size+1) wr aA:=Fr.aF he.fr;have aw:=ag h (U.2.trans ai);refine dq hK (he.fr) ?_;clear hK K;clear h he ai bz O;refine tf ?_;refine a2 ?_ ?_
   ·
    refine dT ?_;refine bB (λV=>Ext aA V/\aq V aA.heap.size 5 #[.int .u8 bv]) ⟨LW.alloc _,LX⟩ (λe2 hV=>?_);have cb:=ag (aw.1.cS hV.1 λ_ _ h=>h) (aw.2.trans (hV.1.mono λ_ h=>h.elim));have ib:wr.heap.size<=aA.heap.size:=aw.2.size;have gU:=ae hV.2;clear hV;obtain⟨e0,a6,aP⟩:=gU.two;refine cz (v:=?_) rfl (by rfl) (λV hV=>?_) ?_;rotate_left
    .have b6:=fy V (aA.heap.size) bv ((hV.cell aP ad).trans (e0 0))
     (go_simp<;>with_reducible rfl)
    try simp only[PU]
    clear e0 a6 aP
    iterate 2 refine tf ?_
    refine ao ?_;refine dT ?_;refine bB (λV=>Ext e2 V/\aq V e2.heap.size 159 #[.string ⟨#[]⟩,.bool false]) ⟨LW.alloc _,LX⟩ (λiA hV=>?_);have g3:=ag (cb.1.cS hV.1 λ_ _ h=>h) (cb.2.trans (hV.1.mono λ_ h=>h.elim));have ic:wr.heap.size<=e2.heap.size:=cb.2.size;have hE:=ae hV.2;have h2:=ae (gU.aj hV.1);clear hV;have ah:=And.intro g3.1 (And.intro g3.2 (And.intro hE.o (And.intro (show bY<=e2.heap.size by omega) bi)));revert ah;generalize aA.heap.size=a3;generalize e2.heap.size=az;intro ah;exact key a3 az j _ ah
   ·
    refine dT ?_;refine bB (λV=>Ext aA V/\aq V aA.heap.size 159 #[.string ⟨#[]⟩,.bool false]) ⟨LW.alloc _,LX⟩ (λgT hV=>?_);have co:=ag (aw.1.cS hV.1 λ_ _ h=>h) (aw.2.trans (hV.1.mono λ_ h=>h.elim));have ie:wr.heap.size<=aA.heap.size:=aw.2.size;have hG:=ae hV.2;clear hV;refine ao ?_;refine dT ?_;refine bB (λV=>Ext gT V/\aq V gT.heap.size 5 #[.int .u8 bv]) ⟨LW.alloc _,LX⟩ (λiB hV=>?_);have g4:=ag (co.1.cS hV.1 λ_ _ h=>h) (co.2.trans (hV.1.mono λ_ h=>h.elim));have ig:wr.heap.size<=gT.heap.size:=co.2.size;have hx:=ae hV.2;have hH:=ae (hG.aj hV.1);clear hV;obtain⟨e0,a6,aP⟩:=hx.two;refine cz (v:=?_) rfl (by rfl) (λV hV=>?_) ?_;rotate_left
    .have b6:=fy V (gT.heap.size) bv ((hV.cell aP ad).trans (e0 0))
     (go_simp<;>with_reducible rfl)
    try simp only[PU]
    clear e0 a6 aP
    iterate 2 refine tf ?_
    have ah:=And.intro g4.1 (And.intro g4.2 (And.intro hH.o (And.intro (show bY<=aA.heap.size by omega) bi)));revert ah;generalize gT.heap.size=a3;generalize aA.heap.size=az;intro ah;exact key a3 az j _ ah
  ·
   refine dT ?_;refine bB (λV=>Ext wr V/\aq V wr.heap.size 159 #[.string ⟨#[]⟩,.bool false]) ⟨(LW.alloc _).drew,LX⟩ (λc2 hV=>?_);have aU:=ag (U.1.cS hV.1 λ_ _ h=>h) (U.2.trans (hV.1.mono λ_ h=>h.elim));have ih:wr.heap.size<=wr.heap.size:=U.2.size;have g8:=ae hV.2;clear hV;refine a2 ?_ ?_
   ·
    refine dT ?_;refine bB (λV=>Ext c2 V/\aq V c2.heap.size 5 #[.int .u8 bv]) ⟨LW.alloc _,LX⟩ (λim hV=>?_);have g5:=ag (aU.1.cS hV.1 λ_ _ h=>h) (aU.2.trans (hV.1.mono λ_ h=>h.elim));have ii:wr.heap.size<=c2.heap.size:=aU.2.size;have gV:=ae hV.2;have hJ:=ae (g8.aj hV.1);clear hV;obtain⟨e0,a6,aP⟩:=gV.two;refine cz (v:=?_) rfl (by rfl) (λV hV=>?_) ?_;rotate_left
    .have b6:=fy V (c2.heap.size) bv ((hV.cell aP ad).trans (e0 0))
     (go_simp<;>with_reducible rfl)
    try simp only[PU]
    clear e0 a6 aP;refine tf ?_;refine ao ?_;refine aB rfl (λK hK=>?_) rfl;go_simp;refine(a9 _ (S.heap.size+1) A n c l 3 (g5.1.cS (M:=λ_=>False) LW (λ_ _ h=>h)) ad ad).mono ?_;rintro e io ⟨bZ,rfl,bz,O,h,he⟩;obtain⟨j,rfl⟩:=Lp bz;have bi:j<3:=ad;have ai:Fr (λb=>b=S.heap.size+1) im io:=he.fr;have g6:=ag h (g5.2.trans ai);have h3:=ae (gV.on ai ad);have hL:=ae (hJ.on ai ad);refine dq hK (he.fr) ?_;clear hK K;clear h he ai bz O
    iterate 2 refine tf ?_
    have ah:=And.intro g6.1 (And.intro g6.2 (And.intro hL.o (And.intro (show bY<=wr.heap.size by omega) bi)));revert ah;generalize c2.heap.size=a3;exact sJ
   ·
    refine aB rfl (λK hK=>?_) rfl;go_simp;refine(a9 _ (S.heap.size+1) A n c l 3 (aU.1.cS (M:=λ_=>False) LW (λ_ _ h=>h)) ad ad).mono ?_;rintro e c3 ⟨bZ,rfl,bz,O,h,he⟩;obtain⟨j,rfl⟩:=Lp bz;have bi:j<3:=ad;have ai:Fr (λb=>b=S.heap.size+1) c2 c3:=he.fr;have cE:=ag h (aU.2.trans ai);have hM:=ae (g8.on ai ad);refine dq hK (he.fr) ?_;clear hK K;clear h he ai bz O;refine tf ?_;refine ao ?_;refine dT ?_;refine bB (λV=>Ext c3 V/\aq V c3.heap.size 5 #[.int .u8 bv]) ⟨LW.alloc _,LX⟩ (λiC hV=>?_);have g7:=ag (cE.1.cS hV.1 λ_ _ h=>h) (cE.2.trans (hV.1.mono λ_ h=>h.elim));have ij:wr.heap.size<=c3.heap.size:=cE.2.size;have hy:=ae hV.2;have hN:=ae (hM.aj hV.1);clear hV;obtain⟨e0,a6,aP⟩:=hy.two;refine cz (v:=?_) rfl (by rfl) (λV hV=>?_) ?_;rotate_left
    .have b6:=fy V (c3.heap.size) bv ((hV.cell aP ad).trans (e0 0))
     (go_simp<;>with_reducible rfl)
    try simp only[PU]
    clear e0 a6 aP
    iterate 2 refine tf ?_
    have ah:=And.intro g7.1 (And.intro g7.2 (And.intro hN.o (And.intro (show bY<=wr.heap.size by omega) bi)));revert ah;generalize c3.heap.size=a3;exact sJ
 ·
  exact BS
 ):p:=h
end Dj
open Dj in
theorem J3(S:World)(gS:Value)(Q:Exit->Act->World->Prop)(hQ0:∀c a d v w,Q (.panic c) (a.put d v) w->Q (.panic c) a w)
  (s:∀e6 bE,(∀a ab,Code.wp prog (nN 32) (Exit.then bE Q) a ab->e6 a ab)->(∀a ab,Code.wp prog (Hs 42) Q a ab->bE a ab)->Fz S gS (Exit.then bE Q) e6)
  (K:Act->World->Prop) (hK:∀a ab,Code.wp prog (nN 19) Q a ab->K a ab):Fy S gS Q K:=by
 unfold Fy;intro ip A n c l ar MA mn mc M GA gn gc G av aX hs hu gJ gQ u8 gL eR bm bL ce bV bU u16 ck gs eS eV eW eX eY eZ e3 e5 e7 e8 e9 fb fd u32 fe ff fh fi fj fk fl fm fo fq fr fs ft fu fv fw fx fz fA fB fC fD fE fF fG fH fI fJ fK fL fM u64 fN fO fP fQ fR fS fT fU fV fW fX fY fZ f3 f4 f5 f6 f7 f8 f9 ga gb gd ge gf gg gh gi gj gk gl gm go gp gq H I am aF aL aM aN aV aW a7 bb be bg bo br bs bw bI bO bW b2 b5 b8 cc cd cf ch cj cp cr ct cx cA cB cC cD cF cG cH cL cM cP cQ cS cT cU cV cW cX cY cZ c4 c5 c6 c7 c8 c9 da db dc dd de df dg dh di dj dk dl dm dn dp dr ds du dw dx dy dz dA dB dC dD dF dG dH dI dJ dK dM dN dQ dS dU dV dW dX dZ d0 d1 d2 d3 d4 d5 d6 d7 d8 d9 ea eb ec ed ee ef eg eh ei ej ek el em en eo ep eq er es et eu ev ew ex ey ez eA eB eD eE eF eG eH eI eJ eK eL eM eN eO eP bA gv gw gx gy gz gA gB gC gD gE gF gG gH gI w a1;obtain⟨bj,gX⟩:=aJ a1.J3 s;obtain⟨u,ha⟩:∃u,u=w.heap.size:=⟨_,rfl⟩
 rw[<-ha] at bj;clear a1 s ha;conv=>arg 2;whnf
 conv at hK=>enter [a,w,1,2];whnf
 obtain⟨a0,aj,af⟩:=bj.blk.two;go_wp2_with(fail);refine(a9 w (S.heap.size+1) A n c l 4 bj.src ad ad).mono ?_;rintro e aS ⟨cv,rfl,aZ,b1,h,he⟩;obtain⟨N,rfl⟩:=Lp aZ;have hi:N<4:=ad;have gY:=ae (bj.next h he.fr);clear h he a0 aj af bj aZ b1;go_wp2_with(fail);go_loopw [12] (λcy wr=>∃(i:Nat) (FA:L3) (fc:Nat) (F:List aK),cy=.int .i64 i/\i<=N+1/\zB S u wr A n c l ar MA mn mc M GA gn gc G av aX FA i fc F) (λcy _=>N+1 - (intOf cy).toNat)
 case atStart=>exact⟨0,none,0,[],rfl,ad,gY.o⟩
 case round=>
  obtain⟨i,FA,fc,F,rfl,an,a1⟩:=hrel;obtain⟨cK,rfl⟩:∃cK,cK=wr:=⟨wr,rfl⟩
  clear gY;have cq:=ae a1;obtain⟨a0,aj,af⟩:=a1.blk.two;have cg:F.length=i:=by have:=a1.fs.len;simpa using this
  have hD:=a1.hD;clear a1;by_cases al:i<=N
  .have gN:(i:Int)<=(N:Int):=ad;have e1:i<=3:=ad;have b6:=λ(W:World) (v:Int)=>k0 W v;have hY:∀v,(strOf [byteOf v]).size=1:=λv=>aO _;go_upto_region 24 with(fail);clear hY;generalize hX:World.alloc _ _=g9;have b0:=iS hX;have hb:aq g9 (cK.heap.size+1) 157 #[.string (⟨#[102]⟩++strOf [byteOf (48+(i:Int))]),.slice none 0 0,.slice none 0 0]:=by
    rw[<-hX];exact aq.gC _ _ _ (by simp)
   have f2:=cq.src.cS b0 λ_ _ h=>h;have z:=aE f2 b0 hb;clear hX b0 hb f2 a0 aj af;by_cases f1:i=0
   case' pos=>
    have gM:((i:Int) == 0)=true:=by simp;omega
    obtain⟨f0,dL,dO⟩:=z.2.2.two;have cw:=ae f1;clear f1;go_upto_region 26 with(fail);generalize hX:World.setCell _ _ _=Y;have J:=cO hX;have ix:=cq.blk.lt;have hF:cn Y (S.heap.size+1) A n c l/\Fr (λb=>b=S.heap.size+1) cK Y/\aq Y (cK.heap.size+1) 157 #[.string (jE i),.slice none 0 0,.slice none 0 0]:=by
     refine⟨z.1.cS J (λb O h=>ad),(z.2.1.mono λ_ h=>h.elim).eR (J.below z.2.1.size λk ap h=>ad),?_⟩;rw[<-hX,cw.o];exact z.2.2.aM 0 _
    clear hX J f0 dL dO z
   case' neg=>
    have gM:((i:Int) == 0)=false:=by simp;omega
    have cw:=ae f1;clear f1;go_upto_region 26 with(fail);have hF:cn g9 (S.heap.size+1) A n c l/\Fr (λb=>b=S.heap.size+1) cK g9/\aq g9 (cK.heap.size+1) 157 #[.string (jE i),.slice none 0 0,.slice none 0 0]:=⟨z.1,z.2.1.mono λ_ h=>h.elim,by have:=z.2.2;rw[Eh ad cw.o rfl] at this;exact this⟩
    clear z;revert hF;generalize g9=Y;intro hF
   all_goals
    clear b6;have bX:=ae hF;obtain⟨a0,aj,af⟩:=(cq.next bX.1 bX.2.1).blk.two;clear hF;go_wp2_with(fail);refine(a9 Y (S.heap.size+1) A n c l 3 bX.1 ad ad).mono ?_;rintro e hl ⟨bS,rfl,aZ,b1,h,he⟩;obtain⟨hr,rfl⟩:=Lp aZ;have bu:hr<=2:=ad;have cu:=aE h (bX.2.1.trans he.fr) (bX.2.2.on he.fr (aD cq.blk.lt));clear h he a0 aj af bX aZ b1;go_wp2_with(fail);go_loopw [14] (λhk b3=>∃(m:Nat) (PA:L3) (pn pc:Nat) (ps:List (ByteArray×Bool)),hk=.int .i64 m/\m<=2/\pn+m<=2/\(i=0->ps=[])/\(i≠0->ps.map (·.1)++e4 m=e4 hr)/\cn b3 (S.heap.size+1) A n c l/\Fr (λb=>b=S.heap.size+1) cK b3/\aq b3 (cK.heap.size+1) 157 #[.string (jE i),.slice PA pn pc,.slice none 0 0]/\Gr (λ_=>False) (cK.heap.size+1+1) 159 2 b3 PA pn pc (ps.map dv)) (λhk _=>(intOf hk).toNat)
    case atStart=>exact⟨hr,none,0,0,[],rfl,bu,ad,λ_=>rfl,λ_=>rfl,cu.1,cu.2.1,cu.2.2,Gr.nil _ _ _ _ _⟩
    case round=>
     obtain⟨m,PA,pn,pc,ps,rfl,ci,eT,hn,ho,hF⟩:=hrel;clear cu;have bX:=ae hF;have gO:=ag hn ho;have hQ:=cq.next hF.1 hF.2.1;obtain⟨a0,aj,af⟩:=hQ.blk.two;obtain⟨f0,dL,dO⟩:=hF.2.2.1.two;have hz:=ae hQ;clear hF hn ho hQ;by_cases al:0<m/\0<i
     .obtain⟨hj,bc⟩:=al;have q1:decide ((m:Int) > 0)=true:=by simp;omega
      have cN:decide ((i:Int) > 0)=true:=by simp;omega
      have hW:(m:Int)<=2:=ad;have gP:¬S.heap.size+1+1=S.heap.size+1:=ad;have cm:S.heap.size+1+1<wr.heap.size:=hz.blk.lt;clear f0 dL dO;go_upto_region 29 with(fail);exact Ax
     .have dt:(¬0<m)\/((0<m)/\¬0<i):=by
       by_cases ac:0<m
       .exact .inr ⟨ac,λh=>al ⟨ac,h⟩⟩
       .exact .inl ac
      have hp:∃bn,bn<=2/\ps.map (·.1)=e4 bn:=by
       by_cases ac:i=0
       .exact⟨0,ad,by rw[gO.1 ac];rfl⟩
       .have au:m=0:=by
         by_cases aY:0<m
         .exact absurd ⟨aY,ad⟩ al
         .omega
        have aY:=gO.2 ac;rw[au] at aY;exact⟨hr,bu,by simpa[e4] using aY⟩
      have h5:=ae hp;clear al hp;rcases dt with q1|⟨q1,cN⟩
      ·
       exact GN
      ·
       exact GN
  .have gN:¬(i:Int)<=(N:Int):=ad;go_upto_region 32 with(fail);have bH:=gX.o _ _ (by assumption) (by assumption);unfold Fz at bH;exact bH u A n c l ar MA mn mc M GA gn gc G av aX FA i fc F cK ad cq.o
theorem rl.lJ{G:List (ByteArray×Int)}{M:List bD}{F:List aK}(a9:sw G)(ci:G.length<=2)(hm:nu M)(cf:1<=M.length/\M.length<=4)(J:∀i f,F[i]?=some f->f.name=jE i/\(∃n,n<=2/\f.params.map (·.1)=e4 n)/\(i=0->f.params=[]))(cg:1<=F.length/\F.length<=4):gF ⟨G,M,F⟩:=
 ⟨ci,cf,cg,a9,hm,J⟩
theorem EY{F:List aK}{i:Nat}(J:F[i]?=some f)(b:an):(F.set i {f with body:=b}).map (λf=>(f.name,f.params))=F.map λf=>(f.name,f.params):=by
 exact zI
theorem zj{F:List aK}{i:Nat}(J:F[i]?=some f)(b:an):(F.set i {f with body:=b}).map (·.name)=F.map (·.name):=by
 exact zI
structure vC(G:List (ByteArray×Int))(M:List bD)(F:List aK)(k L:Nat):Prop where
 lJ:∀i f,F[i]?=some f->f.name=jE i/\(∃n,n<=2/\f.params.map (·.1)=e4 n)/\(i=0->f.params=[])
 made:∀i f,F[i]?=some f->i<k->e6 (h3 ⟨G,M,F⟩ f) 2 (fu ⟨G,M,F⟩++cw f.params) (bk ⟨G,M,F⟩++f.params.map (·.1)) f.body
 bR:∀i f,F[i]?=some f->k<=i->f.body=.nil
 num:(F.map λf=>f.body.num).sum+2*L<=48
theorem rl.start{G:List (ByteArray×Int)}{M:List bD}{F:List aK}(h:rl F):vC G M F 0 24:=by
 refine⟨λi f J=>⟨(h i f J).1,(h i f J).2.1,(h i f J).2.2.1⟩,λi f _ an=>ad,λi f J _=>(h i f J).2.2.2,?_⟩;have h0:(F.map λf=>f.body.num).sum=0:=by
  have ac:F.map (λf=>f.body.num)=F.map λ_=>0:=List.map_congr_left λf J=>by
   obtain⟨i,an⟩:=List.getElem?_of_mem J;rw[(h i f an).2.2.2];rfl
  rw[ac];clear ac h
  induction F with
  | nil=>rfl
  | cons f F ao=>simpa using ao
 omega
theorem Gw{F:List aK}:∀{i:Nat} {f:aK},F[i]?=some f->f.body=.nil->((F.set i {f with body:=b}).map λf=>f.body.num).sum=(F.map λf=>f.body.num).sum+b.num:=by
 induction F with
 | nil=>intro i f J;simp at J
 | cons g F ao=>
  intro i f J hn
  cases i with
  | zero=>
   simp at J;subst J;simp[hn,an.num]
   omega
  | succ i=>
   simp at J;have:=ao (i:=i) J hn;simp only[List.set_cons_succ,Lq,List.sum_cons,this];omega
theorem vC.next{G:List (ByteArray×Int)}{M:List bD}{F:List aK}{k L R:Nat}(h:vC G M F k L)(J:F[k]?=some f){ls:List aA}(hm:Made (h3 ⟨G,M,F⟩ f) 2 (fu ⟨G,M,F⟩++cw f.params) (bk ⟨G,M,F⟩++f.params.map (·.1)) L R ls):
  vC G M (F.set k {f with body:=.eQ ls}) (k+1) R:=by
 have hs:=EY J (.eQ ls);have hn:=zj J (.eQ ls);have al:=(List.getElem?_eq_some_iff.1 J).1;have hG:∀g,h3 ⟨G,M,F.set k {f with body:=.eQ ls}⟩ g=h3 ⟨G,M,F⟩ g:=λg=>by simp only[h3,sigs,hs]
 have hT:bk ⟨G,M,F.set k {f with body:=.eQ ls}⟩=bk ⟨G,M,F⟩:=by simp only[bk,fu,hn]
 have P:∀i g,(F.set k {f with body:=.eQ ls})[i]?=some g->(i=k/\g={f with body:=.eQ ls})\/(i≠k/\F[i]?=some g):=λi g a9=>by
  by_cases an:k=i
  .subst an;rw[List.getElem?_set_self al] at a9;injection a9 with a9;exact .inl ⟨rfl,a9.symm⟩
  .rw[List.getElem?_set_ne an] at a9;exact .inr ⟨λh=>an h.symm,a9⟩
 refine⟨λi g a9=>?_,λi g a9 an=>?_,λi g a9 an=>?_,?_⟩
 .rcases P i g a9 with⟨rfl,rfl⟩|⟨_,au⟩
  .exact h.lJ _ f J
  .exact h.lJ _ _ au
 .rw[hG,hT];rcases P i g a9 with⟨rfl,rfl⟩|⟨ac,au⟩
  .exact hm.wf
  .exact h.made i g au ad
 .rcases P i g a9 with⟨rfl,rfl⟩|⟨ac,au⟩
  .omega
  .exact h.bR i g au ad
 .rw[Gw J (h.bR k f J (Lk _))];have ac:=hm.num;have au:=hm.le;have aY:=h.num;omega
theorem vC.wf{G:List (ByteArray×Int)}{M:List bD}{F:List aK}{L:Nat}(h:vC G M F F.length L)(a9:sw G)(ci:G.length<=2)(hm:nu M)(cf:1<=M.length/\M.length<=4)(cg:1<=F.length/\F.length<=4):oR ⟨G,M,F⟩:=by
 refine(rl.lJ a9 ci hm cf h.lJ cg).wf (λf J=>?_) (by have:=h.num;simp only;omega);obtain⟨i,an⟩:=List.getElem?_of_mem J;have al:=(List.getElem?_eq_some_iff.1 an).1;exact dg _ 2 4 _ _ _ _ (λ_ h=>h) (λ_ _ h=>h) ad (h.made i f an al)
theorem l5{w:World}{cs:List Value}:(du f).rep w P cs↔∃(A:L3) (n c:Nat) (A2:L3) (n2 c2:Nat),cs=[.string f.name,.slice A n c,.slice A2 n2 c2]/\n<=c/\Sl w P A n (f.params.map dv)/\n2<=c2/\Sl w P A2 n2 (c6 f.body):=by
 unfold du;rw[bM,ct];constructor
 .rintro⟨y,rfl,h⟩;obtain⟨A,n,c,ch,rfl,hc,hs,h⟩:=aN.1 h;obtain⟨A2,n2,c2,bA,rfl,ca,bN,h⟩:=aN.1 h;rw[aP] at h;subst h;exact⟨A,n,c,A2,n2,c2,rfl,hc,hs,ca,bN⟩
 .rintro⟨A,n,c,A2,n2,c2,rfl,hc,hs,ca,bN⟩;exact⟨_,rfl,aN.2 ⟨A,n,c,_,rfl,hc,hs,aN.2 ⟨A2,n2,c2,[],rfl,ca,bN,aP.2 rfl⟩⟩⟩
theorem rT(f:aK):(du f).sz=3:=rfl
theorem se{w:World}{P:Nat->Prop}{b:an}{bM:L3}{on b4:Nat}(hc:on<=b4)(b8:Sl w P bM on (c6 b)):∀(F:List aK) (i:Nat) (xs:List Value) (f:aK),D.aQ w P (F.map du) xs->F[i]?=some f->D.aQ w P ((F.set i {f with body:=b}).map du) (xs.set (i*3+2) (.slice bM on b4))
 | [],i,xs,f,h,J=>by simp at J
 | x::F,0,xs,f,h,J=>by
  simp only[List.getElem?_cons_zero,LP] at J;subst J;rw[Lq] at h;obtain⟨j,d,rfl,hx,bb⟩:=gU.1 h;obtain⟨A,n,c,A2,n2,c2,rfl,ac,au,_,_⟩:=l5.1 hx;rw[List.set_cons_zero,Lq]
  exact gU.2 ⟨[.string x.name,.slice A n c,.slice bM on b4],d,rfl,l5.2 ⟨A,n,c,bM,on,b4,rfl,ac,au,hc,b8⟩,bb⟩
 | x::F,i+1,xs,f,h,J=>by
  rw[List.getElem?_cons_succ] at J;rw[Lq] at h;obtain⟨j,d,rfl,hx,bb⟩:=gU.1 h;have hl:=(D.lr _ _ hx).trans (rT x);have ao:=se hc b8 F i d f bb J;rw[List.set_cons_succ,Lq,List.set_append_right _ _ ad,hl,show (i+1)*3+2 - 3=i*3+2 by omega];exact gU.2 ⟨_,_,rfl,hx,ao⟩
theorem Gr.Kc{w:World}{n c i:Nat}{F:List aK}{bM:L3}{on b4:Nat}(h:Gr P B e 3 w (some ⟨g,0,none⟩) n c (F.map du))(J:F[i]?=some f)(hc:on<=b4)(b8:Sl w (lL P w (.slice (some ⟨g,0,none⟩) n c)) bM on (c6 b)):
  Gr P B e 3 (w.setCell ⟨g,i*3+2,none⟩ (.slice bM on b4)) (some ⟨g,0,none⟩) n c ((F.set i {f with body:=b}).map du):=by
 obtain⟨hl,xs,ac,au⟩:=h;have cd:Fr (λb=>b=g) w (w.setCell ⟨g,i*3+2,none⟩ (.slice bM on b4)):=(Fr.refl (λb=>b=g) w).setCell (.inl rfl) _;have hs:=cd.size;have aG:=(List.getElem?_eq_some_iff.1 J).1;refine⟨by simpa using hl,xs.set (i*3+2) (.slice bM on b4),⟨by rw[List.length_set];exact ac.1,?_⟩,?_⟩
 .rcases ac.2 with⟨bG,_⟩|⟨ag,cap,cur,bG,O,a9,hn,aV,bI,ht⟩
  .cases bG
  .injection bG with bz _ Z;injection bz with bz;injection bz with bz;subst bz;refine .inr ⟨g,cap,cur.setIfInBounds (i*3+2) (.slice bM on b4),by rw[Z],O,aq.aM (show aq w g e cur from a9) (i*3+2) _,hn,aV,by simpa using bI,?_⟩;rw[Array.toList_setIfInBounds,List.take_set,ht]
 .refine D.bZ (λb O=>⟨O.1,Ll O.2.1 hs,O.2.2⟩) _ _ (D.bY (λb O=>cd.block b O.2.1 λj=>O.2.2 ?_) _ _ (se hc b8 F i xs f au J));subst j;rfl
theorem Gr.JH{w:World}{n c:Nat}{A:L3}{l:List D}(h:Gr P B e z w A n c l)(hn:0<n):∃g,A=some ⟨g,0,none⟩/\B<=g/\g<w.heap.size:=by
 obtain⟨_,xs,ac,_⟩:=h;rcases ac.2 with⟨_,h0⟩|⟨g,cap,cur,bG,O,a9,_⟩
 .omega
 .injection bG with bG _ _;exact⟨g,bG,O,(Array.getElem?_eq_some_iff.1 a9).1⟩
structure oV(S:World)(u:Nat)(A:L3)(n c:Nat)(l:List Int)(ar:Bool)(MA:L3)(mn mc:Nat)(M:List bD)(GA:L3)(gn gc:Nat)(G:List (ByteArray×Int))(av:L3)(aX:Nat)(fg fn fc:Nat)(w:World)(F:List aK)(i L:Nat):Prop where
 src:cn w (S.heap.size+1) A n c l
 blk:aq w (S.heap.size+1+1) 149 #[.pointer (some ⟨S.heap.size+1,0,none⟩),.slice GA gn gc,.slice MA mn mc,.slice (some ⟨fg,0,none⟩) fn fc,.int .i64 L,.bool ar]
 res:aq w S.heap.size 27 #[.slice none 0 0,.slice none 0 0,.slice none 0 0]
 ms:Sl w (λb=>S.heap.size+1+1+1<=b/\b<u) MA mn (M.map eD)
 gs:Sl w (λb=>S.heap.size+1+1+1<=b/\b<u) GA gn (G.map iD)
 vs:Sl w (λb=>S.heap.size+1+1+1<=b/\b<u) av gn ((G.map (·.1)).map D.s)
 fs:Gr (λb=>u<=b) u 157 3 w (some ⟨fg,0,none⟩) fn fc (F.map du)
 mc:mn<=mc
 gc:gn<=gc
 nm:1<=mn/\mn<=4
 ok:nu M
 ng:gn<=2
 zt:sw G
 nf:1<=fn/\fn<=4
 bd:vC G M F i L
 kJ:L<=24
 ext:Ext S w
 hD:S.heap.size+1+1+1<=u/\u<=w.heap.size
section
variable {S w ab:World} {u:Nat} {A:L3} {n c:Nat} {l:List Int} {ar:Bool} {MA:L3} {mn mc:Nat} {M:List bD} {GA:L3} {gn gc:Nat} {G:List (ByteArray×Int)} {av:L3} {aX:Nat} {FA:L3} {fg fn fc:Nat} {F:List aK} {i L R:Nat}
theorem zB.J4(h:zB S u w A n c l ar MA mn mc M GA gn gc G av aX FA fn fc F)(hn:1<=fn):∃fg,FA=some ⟨fg,0,none⟩/\oV S u A n c l ar MA mn mc M GA gn gc G av aX fg fn fc w F 0 24:=by
 obtain⟨fg,rfl,_⟩:=h.fs.JH ad;exact⟨fg,rfl,h.src,h.blk,h.res,h.ms,h.gs,h.vs,h.fs,h.mc,h.gc,h.nm,h.ok,h.ng,h.zt,⟨hn,h.nf⟩,h.JO.start,Lk _,h.ext,h.hD⟩
theorem oV.len(h:oV S u A n c l ar MA mn mc M GA gn gc G av aX fg fn fc w F i L):F.length=fn/\M.length=mn/\G.length=gn:=⟨by have:=h.fs.len;simpa using this,by have:=h.ms.1;simpa using this,by have:=h.gs.1;simpa using this⟩
theorem oV.own(h:oV S u A n c l ar MA mn mc M GA gn gc G av aX fg fn fc w F i L):u<=fg/\fg<w.heap.size:=h.fs.lt rfl
theorem oV.jF(h:oV S u A n c l ar MA mn mc M GA gn gc G av aX fg fn fc w F i L):∀f∈F,f.params.length<=2:=λf J=>by
 obtain⟨i,an⟩:=List.getElem?_of_mem J;obtain⟨n,hn,hp⟩:=(h.bd.lJ i f an).2.1;have:=congrArg List.length hp;rw[Lo,mj] at this;omega
theorem oV.aj(h:oV S u A n c l ar MA mn mc M GA gn gc G av aX fg fn fc w F i L)(O:Ext w ab):oV S u A n c l ar MA mn mc M GA gn gc G av aX fg fn fc ab F i L:=by
 have hD:=h.hD;have ap:∀b,(S.heap.size+1+1+1<=b/\b<u)->ab.heap[b]?=w.heap[b]?:=λb hp=>O.block b (aD hp.2) (λh=>h);exact⟨h.src.cS O λ_ _ h=>h,h.blk.aj O,h.res.aj O,h.ms.al ap,h.gs.al ap,h.vs.al ap,h.fs.aj O,h.mc,h.gc,h.nm,h.ok,h.ng,h.zt,h.nf,h.bd,h.kJ,h.ext.trans O,hD.1,by have:=O.size;omega⟩
theorem oV.wr(h:oV S u A n c l ar MA mn mc M GA gn gc G av aX fg fn fc w F i L):gA w ⟨S.heap.size+1,S.heap.size+1+1,A,n,c,l,GA,gn,gc,MA,mn,mc,some ⟨fg,0,none⟩,fn,fc,M,F,ar⟩ L:=by
 have hD:=h.hD;exact⟨h.src,h.blk,Nat.lt_succ_self _,h.ms.mono λb O=>⟨ad,λhm=>by rcases hm with hm|hm<;>(simp only at hm;omega)⟩,h.fs.sl (λb O hp=>⟨O,λhm=>by rcases hm with hm|hm<;>(simp only at hm;omega)⟩) (λb O hp=>⟨O,λhm=>by rcases hm with hm|hm<;>(simp only at hm;omega)⟩),h.nm,h.nf,
  λm hm=>by obtain⟨k,ap⟩:=List.getElem?_of_mem hm;exact⟨(h.ok k m ap).2.1,(h.ok k m ap).2.2.1⟩,h.jF,h.kJ⟩
theorem oV.lJ(h:oV S u A n c l ar MA mn mc M GA gn gc G av aX fg fn fc w F i L):gF ⟨G,M,F⟩:=rl.lJ h.zt (lY h.len.2.2 h.ng) h.ok (lY h.len.2.1 h.nm) h.bd.lJ (lY h.len.1 h.nf)
theorem oV.body(h:oV S u A n c l ar MA mn mc M GA gn gc G av aX fg fn fc w F i L){f:aK}(J:F[i]?=some f){ls:List aA}{bM:L3}{on b4:Nat}
  (hw:gA ab ⟨S.heap.size+1,S.heap.size+1+1,A,n,c,l,GA,gn,gc,MA,mn,mc,some ⟨fg,0,none⟩,fn,fc,M,F,ar⟩ R) (O:Fr (λb=>b=S.heap.size+1\/b=S.heap.size+1+1) w ab)
  (hm:Made (h3 ⟨G,M,F⟩ f) 2 (fu ⟨G,M,F⟩++cw f.params) (bk ⟨G,M,F⟩++f.params.map (·.1)) L R ls) (hc:on<=b4) (hs:Sl ab (fresh w ab) bM on (ls.map bj)) :
  oV S u A n c l ar MA mn mc M GA gn gc G av aX fg fn fc (ab.setCell ⟨fg,i*3+2,none⟩ (.slice bM on b4)) (F.set i {f with body:=.eQ ls}) (i+1) R:=by
 have hD:=h.hD;have bn:=h.own;have bI:=O.size;have az:Fr (λb=>b=fg) ab (ab.setCell ⟨fg,i*3+2,none⟩ (.slice bM on b4)):=(Fr.refl (λb=>b=fg) ab).setCell (.inl rfl) _;have bw:=az.size;have ap:∀b,(S.heap.size+1+1+1<=b/\b<u)->(ab.setCell ⟨fg,i*3+2,none⟩ (.slice bM on b4)).heap[b]?=w.heap[b]?:=λb hp=>(az.block b (aD hp.2) (aD hp.2)).trans (O.block b (aD hp.2) λah=>by have:=hp.1;rcases ah with ah|ah<;>omega);have a9:Gr (λb=>u<=b) u 157 3 ab (some ⟨fg,0,none⟩) fn fc (F.map du):=h.fs.c8 O λb hm _=>by rcases hm with hm|hm<;>exact⟨ad,ad⟩
 have aN:Ext S ab:=Fr.low (M:=λb=>b=S.heap.size+1\/b=S.heap.size+1+1) ((h.ext.mono λ_ h=>h.elim).trans O) λk ap=>by rcases ap with ap|ap<;>omega
 refine⟨hw.src.cS az λb al ah=>by simp only at al;omega,hw.blk.on az (by show ¬S.heap.size+1+1=fg;omega),(h.res.on O ad).on az ad,h.ms.al ap,h.gs.al ap,h.vs.al ap,?_,h.mc,h.gc,h.nm,h.ok,h.ng,h.zt,h.nf,h.bd.next J hm,hw.kJ,
  Fr.low (M:=λb=>b=fg) ((aN.mono λ_ h=>h.elim).trans az) λk ap=>by have:=h.ext.size;omega,hD.1,ad⟩
 refine a9.Kc J hc ?_;rw[mH];exact hs.mono λb O=>⟨by have:=O.1;omega,O.2,λh=>by injection h with h;have:=O.1;simp only at h;omega⟩
theorem oV.done(h:oV S u A n c l ar MA mn mc M GA gn gc G av aX fg fn fc w F fn L):oR ⟨G,M,F⟩:=by
 have hl:=h.len;have O:=h.bd;rw[<-hl.1] at O;exact O.wf h.zt (aD h.ng) h.ok (aD h.nm) (aD h.nf)
end
structure RW(s:Nat)(v0 v1 v2 bt bP:Value)(w ab:World):Prop where
 fr:Fr (λb=>b=s\/b=s+1) w ab
 wb:∀L:Int,aq w (s+1) 149 #[v0,v1,v2,bt,.int .i64 L,bP]->∃R:Int,aq ab (s+1) 149 #[v0,v1,v2,bt,.int .i64 R,bP]
theorem RW.refl{s:Nat}{v0 v1 v2 bt bP:Value}(w:World):RW s v0 v1 v2 bt bP w w:=⟨LW,λL h=>⟨L,h⟩⟩
theorem RW.trans{s:Nat}{v0 v1 v2 bt bP:Value}{w ab aU:World}(h:RW s v0 v1 v2 bt bP w ab)(k:RW s v0 v1 v2 bt bP ab aU):RW s v0 v1 v2 bt bP w aU:=⟨h.fr.trans k.fr,λL O=>by
 obtain⟨ba,ac⟩:=h.wb L O;exact k.wb ba ac⟩
theorem Fk(p:kr)(L:Nat)(V T:L4)(N:L3)(bn aa:Nat)(bm:ByteArray)(ps:List (ByteArray×Bool))(QA:L3)(co qc:Nat)(bS:Value)(w:World)(hw:gA w p L)(hN:Sl w (off p.MW w) N bn (V.map D.s))(hV:V.length+L<=60)(J:mA T L)
  (cg:Sl w (off p.MW w) QA co (ps.map dv)) (bA:co<=2):Calls prog 89 #[.pointer (some ⟨p.wb,0,none⟩),.agg #[.string bm,.slice QA co qc,bS],.slice N bn aa,.int .i64 2,.int .i64 6] w (GH p 2 V T ps L w):=
 xz p L 2 6 V T N bn aa bm ps QA co qc bS w ad ad hw hN hV J cg bA
structure Fw(fg i:Nat)(f:aK)(QA:L3)(co qc:Nat)(fy:L3)(bn bc:Nat)(w:World):Prop where
 c0:w.cell? ⟨fg,i*3,none⟩=some (.string f.name)
 c1:w.cell? ⟨fg,i*3+1,none⟩=some (.slice QA co qc)
 c2:w.cell? ⟨fg,i*3+2,none⟩=some (.slice fy bn bc)
theorem Fw.al{fg i:Nat}{QA:L3}{co qc:Nat}{fy:L3}{bn bc:Nat}{w ab:World}(h:Fw fg i f QA co qc fy bn bc w)(ap:ab.heap[fg]?=w.heap[fg]?):Fw fg i f QA co qc fy bn bc ab:=
 ⟨(World.cell?_of_block (w:=w) ap).trans h.c0,(World.cell?_of_block (w:=w) ap).trans h.c1,(World.cell?_of_block (w:=w) ap).trans h.c2⟩
theorem oV.I7{S w:World}{u:Nat}{A:L3}{n c:Nat}{l:List Int}{ar:Bool}{MA:L3}{mn mc:Nat}{M:List bD}{GA:L3}{gn gc:Nat}{G:List (ByteArray×Int)}{av:L3}{aX:Nat}{fg fn fc:Nat}{F:List aK}{i L:Nat}
  (h:oV S u A n c l ar MA mn mc M GA gn gc G av aX fg fn fc w F i L) (an:i<fn):∃(f:aK) (QA:L3) (co qc:Nat) (fy:L3) (bn bc:Nat),F[i]?=some f/\co<=2/\co<=qc/\Sl w (λb=>u<=b/\b<w.heap.size) QA co (f.params.map dv)/\Fw fg i f QA co qc fy bn bc w:=by
 obtain⟨cj,cY,f,cs,m,cx,r,aP,a8,hc⟩:=Sl.g6 (z:=3) (h.fs.sl (Q:=λb=>u<=b/\b<w.heap.size) (λb al h=>⟨h,al⟩) (λb al h=>⟨h,al⟩)) (λ_=>rT _) an;obtain⟨QA,co,qc,fy,bn,bc,rfl,dL,dR,_,_⟩:=l5.1 aP;injection m with m;injection m with ac au aY;subst ac;subst au;have bA:co<=2:=by
  have bR:=h.jF f (Ln r);have cI:=dR.1;rw[Lo] at cI;omega
 have c0:=hc 0 _ rfl;have c1:=hc 1 _ rfl;have c2:=hc 2 _ rfl;simp only[LF,Lu] at c0 c1 c2;exact⟨f,QA,co,qc,fy,bn,bc,r,bA,dL,dR,c0,c1,c2⟩
theorem Gr.JG{w:World}{n c:Nat}{l:List D}(h:Gr P B e z w (some ⟨g,0,none⟩) n c l):∃cur,aq w g e cur:=by
 obtain⟨_,xs,ac,_⟩:=h;rcases ac.2 with⟨bG,_⟩|⟨ag,cap,cur,bG,O,a9,_⟩
 .cases bG
 .injection bG with bG _ _;injection bG with bG;injection bG with bG;subst bG;exact⟨cur,a9⟩
theorem ry{ps:List (ByteArray×Bool)}{j:Nat}{q:ByteArray×Bool}(h:ps[j]?=some q):cw (ps.take (j+1))=cw (ps.take j)++(if q.2 then [] else [q.1]):=by
 unfold cw;rw[List.take_add_one,h];obtain⟨x,b⟩:=q;cases b<;>simp
theorem tk(ps:List (ByteArray×Bool)):(cw ps).length<=ps.length:=by
 unfold cw;rw[Lo];exact List.length_filter_le _ _
theorem oV.J8{S w ab:World}{u:Nat}{A:L3}{n c:Nat}{l:List Int}{ar:Bool}{MA:L3}{mn mc:Nat}{M:List bD}{GA:L3}{gn gc:Nat}{G:List (ByteArray×Int)}{av:L3}{aX:Nat}{fg fn fc:Nat}{F:List aK}{L:Nat}
  (h:oV S u A n c l ar MA mn mc M GA gn gc G av aX fg fn fc w F fn L) (O:Fr (λb=>b=S.heap.size) w ab):kj S (.returned (.agg #[.slice GA gn gc,.slice MA mn mc,.slice (some ⟨fg,0,none⟩) fn fc])) ab:=by
 have hD:=h.hD;have hs:=O.size;have ap:∀b,(S.heap.size+1+1+1<=b/\b<u)->ab.heap[b]?=w.heap[b]?:=λb hp=>O.block b (aD hp.2) (aD hp.1);have bG:Gr (λb=>u<=b) u 157 3 ab (some ⟨fg,0,none⟩) fn fc (F.map du):=h.fs.c8 O λb hm _=>⟨ad,ad⟩
 exact⟨⟨G,M,F⟩,GA,gn,gc,MA,mn,mc,_,fn,fc,rfl,h.done,h.gc,h.mc,h.fs.cap.1,(h.gs.al ap).mono λb hp=>⟨by have:=hp.1;omega,by have:=hp.2;omega⟩,(h.ms.al ap).mono λb hp=>⟨by have:=hp.1;omega,by have:=hp.2;omega⟩,
  bG.sl (λb al hp=>⟨ad,al⟩) (λb al hp=>⟨ad,al⟩),Fr.low (M:=λb=>b=S.heap.size) ((h.ext.mono λ_ h=>h.elim).trans O) λk ap=>ad⟩
end Go.Proofs.YtkhnkojkplbioaaGreat

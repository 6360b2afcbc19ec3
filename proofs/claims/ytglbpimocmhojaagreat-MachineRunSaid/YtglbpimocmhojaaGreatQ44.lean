/- Part 44 of the proof. No condition of its own. -/
import Derived.Test.YtglbpimocmhojaaGreatQ43
namespace Go.Proofs.YtglbpimocmhojaaGreat
open Go.RowKit Go.Proofs.Tryz
set_option maxRecDepth 1000000
set_option maxHeartbeats 25600000
set_option linter.unusedVariables false
variable{B g z:Nat}{P:Nat->Prop}{p:Prop}{e:TypeId}{f:aJ}{b:an}
namespace CA
theorem eQ(h:p:=by
 refine b3 ?_;generalize bI:World.setCell _ _ _=hM;have hc:wr.heap.size<=az:=ad;obtain⟨bE,bG,bH⟩:=dU (M:=λb=>b=S.heap.size+1) [.string ((⟨#[112]⟩:ByteArray)++strOf [byteOf bv]),.bool _] (by rfl) bF aj hc bI;obtain⟨hq,bE⟩:∃hq,aq hM az 138 #[.string ((⟨#[112]⟩:ByteArray)++strOf [byteOf bv]),.bool hq]:=⟨_,bE⟩
 rw[D0 ad aI.o] at bE;have iy:=cn.blk.lt;have ir:=bT.2.2.1.lt;have bj:=cK (ay.cO bH λb O h=>ad) (bT.2.1.trans bG) (bT.2.2.1.on bG ad) (bT.2.2.2.c8 bG (λb O _=>⟨λh=>h,ad⟩)) bE;have b2:cL.heap.size+1+1<=hM.heap.size:=by have:=bG.size;omega
 clear bI bE bG bH ay aj bF bs aV bu;obtain⟨f0,dH,dL⟩:=bj.2.2.1.two;obtain⟨bs,aV,bu⟩:=bj.2.2.2.2.two;go_wp2_with(at_builtin;refine bP Ha rfl (.tmp 167) (.tmp 169) rfl bj.2.2.2.1 (sX.2 rfl:(ds (tZ m,hq)).rep hM _ _) rfl rfl rfl ad ad b2 ?_;intro iq hU hY hP bW h7 h6;have gq:=bj.2.2.1.on bW (λO=>by have:=(bj.2.2.2.1.lt O).1;omega);have gW:=ah hP bW;clear f0 dH dL hP bW h7 h6 bs aV bu;obtain⟨f0,dH,dL⟩:=gq.two;clear gq);generalize hX:World.setCell _ _ _=hW;have bk:∀b,(Value.slice PA pn pc).ownBlock=some b->cL.heap.size+1+1<=b:=λb O=>(bj.2.2.2.1.lt O).1;have e1:=cJ hX;have be:aq hW (cL.heap.size+1) 136 #[.string (jx i),.slice iq (pn+1) hU,.slice none 0 0]:=hX▸(bj.2.2.1.on gW.2 (λO=>by have:=bk _ O;omega)).aM 1 _;have gP:=(bj.1.cO gW.2 λb O h=>by have:=bk b h;omega).cO e1 λb O h=>ad;have L:Fr (λb=>b=S.heap.size+1) cL hW:=(bj.2.1.eN (gW.2.below bj.2.1.size λk ap h=>by have:=bk k h;omega)).eN (e1.below (lK bj.2.1.size gW.2.size) λk ap h=>ad);have hk:=gW.1.c8 e1 λb O _=>⟨λh=>h,ad⟩
 have hg:=bL gP L be hk;clear hX e1 be gP L hk f0 dH dL bk;obtain⟨bK,aQ⟩:∃bK,m=bK+1:=⟨m - 1,ad⟩
 have dB:(m:Int) - 1=((bK:Nat):Int):=ad;go_roundw
 case rel=>
  refine⟨bK,iq,pn+1,hU,ps++[(tZ m,hq)],by first|(rw[dB])|(congr 1)|go_num,ad,ad,λh=>ad,λh=>?_,hg.1,hg.2.1,hg.2.2.1,by rw[KK];exact hg.2.2.2⟩;have ac:=gL.2 h;rw[aQ] at ac;rw[aQ,<-ac];simp[eX]
 case measure=>exact aG
 ):p:=h
theorem zP(h:p:=by
 generalize hb:IntKind.u8.wrap (IntKind.i64.wrap (48+(m:Int)))=bv;obtain⟨bn,hO⟩:∃bn,bn=wr.heap.size:=⟨_,rfl⟩
 have aI:=ae hb;clear hb;have hp:(strOf [byteOf bv]).size=1:=aO _;have U:=ah bT.1 (Fr.refl (λb=>b=S.heap.size+1) wr);refine gV (P:=?_) (ops:=?_) (Q:=?_) (R:=?_) (tails:=?_) (rest:=.pick [14] (λ_=>.stop)) (aa:=?_)
  (C:=λ(aW az j:Nat) eN=>cm eN (S.heap.size+1) A n c l/\Fr (λb=>b=S.heap.size+1) wr eN/\aq eN az 138 #[.string ⟨#[]⟩,.bool false]/\bn<=az/\j<3) (λkey=>?_) ?_
 rotate_left 6
 ·
  refine qA ?_ ?_ ?_
  ·
   refine dP ?_;refine bw (λV=>Ext wr V/\aq V wr.heap.size 5 #[.int .u8 bv]) ⟨(Ll.alloc _).drew,Lm⟩ (λc0 hV=>?_);have aK:=ah (U.1.cO hV.1 λ_ _ h=>h) (U.2.trans (hV.1.mono λ_ h=>h.elim));have h8:wr.heap.size<=wr.heap.size:=U.2.size;have bZ:=ae hV.2;clear hV;obtain⟨e0,a6,aP⟩:=bZ.two;refine cw (v:=?_) rfl (by rfl) (λV hV=>?_) ?_;rotate_left
   .have bX:=fu V (wr.heap.size) bv ((hV.cell aP ad).trans (e0 0))
    (go_simp<;>with_reducible rfl)
   try simp only[PU]
   clear e0 a6 aP;refine tf ?_;refine aY ?_ ?_
   ·
    refine aB rfl (λK hK=>?_) rfl;go_simp;refine(a2 _ (S.heap.size+1) A n c l 3 (aK.1.cO (M:=λ_=>False) Ll (λ_ _ h=>h)) ad ad).mono ?_;rintro e c1 ⟨bU,rfl,bx,O,h,he⟩;obtain⟨j,rfl⟩:=KI bx;have bi:j<3:=ad;have aj:Fr (λb=>b=S.heap.size+1) c0 c1:=he.fr;have ca:=ah h (aK.2.trans aj);have ht:=ae (bZ.on aj ad);refine dz hK (he.fr) ?_;clear hK K;clear h he aj bx O
    iterate 2 refine tf ?_
    refine ao ?_;refine dP ?_;refine bw (λV=>Ext c1 V/\aq V c1.heap.size 138 #[.string ⟨#[]⟩,.bool false]) ⟨Ll.alloc _,Lm⟩ (λiz hV=>?_);have gZ:=ah (ca.1.cO hV.1 λ_ _ h=>h) (ca.2.trans (hV.1.mono λ_ h=>h.elim));have h9:wr.heap.size<=c1.heap.size:=ca.2.size;have hy:=ae hV.2;have h0:=ae (ht.ai hV.1);clear hV;have ag:=And.intro gZ.1 (And.intro gZ.2 (And.intro hy.o (And.intro (show bn<=c1.heap.size by omega) bi)));revert ag;generalize wr.heap.size=aW;generalize c1.heap.size=az;intro ag;exact key aW az j _ ag
   ·
    refine dP ?_;refine bw (λV=>Ext c0 V/\aq V c0.heap.size 138 #[.string ⟨#[]⟩,.bool false]) ⟨Ll.alloc _,Lm⟩ (λik hV=>?_);have g0:=ah (aK.1.cO hV.1 λ_ _ h=>h) (aK.2.trans (hV.1.mono λ_ h=>h.elim));have ia:wr.heap.size<=c0.heap.size:=aK.2.size;have hz:=ae hV.2;have hu:=ae (bZ.ai hV.1);clear hV;refine ao ?_;refine aB rfl (λK hK=>?_) rfl;go_simp;refine(a2 _ (S.heap.size+1) A n c l 3 (g0.1.cO (M:=λ_=>False) Ll (λ_ _ h=>h)) ad ad).mono ?_;rintro e il ⟨bU,rfl,bx,O,h,he⟩;obtain⟨j,rfl⟩:=KI bx;have bi:j<3:=ad;have aj:Fr (λb=>b=S.heap.size+1) ik il:=he.fr;have g1:=ah h (g0.2.trans aj);have h1:=ae (hu.on aj ad);have hA:=ae (hz.on aj ad);refine dz hK (he.fr) ?_;clear hK K;clear h he aj bx O
    iterate 2 refine tf ?_
    have ag:=And.intro g1.1 (And.intro g1.2 (And.intro hA.o (And.intro (show bn<=c0.heap.size by omega) bi)));revert ag;generalize wr.heap.size=aW;generalize c0.heap.size=az;intro ag;exact key aW az j _ ag
  ·
   refine aB rfl (λK hK=>?_) rfl;go_simp;refine(a2 _ (S.heap.size+1) A n c l 3 (U.1.cO (M:=λ_=>False) (Ll.drew) (λ_ _ h=>h)) ad ad).mono ?_;rintro e aA ⟨bU,rfl,bx,O,h,he⟩;obtain⟨j,rfl⟩:=KI bx;have bi:j<3:=ad;have aj:Fr (λb=>b=S.heap.size+1) wr aA:=Fr.aF he.fr;have aw:=ah h (U.2.trans aj);refine dz hK (he.fr) ?_;clear hK K;clear h he aj bx O;refine tf ?_;refine aY ?_ ?_
   ·
    refine dP ?_;refine bw (λV=>Ext aA V/\aq V aA.heap.size 5 #[.int .u8 bv]) ⟨Ll.alloc _,Lm⟩ (λgQ hV=>?_);have cr:=ah (aw.1.cO hV.1 λ_ _ h=>h) (aw.2.trans (hV.1.mono λ_ h=>h.elim));have ib:wr.heap.size<=aA.heap.size:=aw.2.size;have gT:=ae hV.2;clear hV;obtain⟨e0,a6,aP⟩:=gT.two;refine cw (v:=?_) rfl (by rfl) (λV hV=>?_) ?_;rotate_left
    .have bX:=fu V (aA.heap.size) bv ((hV.cell aP ad).trans (e0 0))
     (go_simp<;>with_reducible rfl)
    try simp only[PU]
    clear e0 a6 aP
    iterate 2 refine tf ?_
    refine ao ?_;refine dP ?_;refine bw (λV=>Ext gQ V/\aq V gQ.heap.size 138 #[.string ⟨#[]⟩,.bool false]) ⟨Ll.alloc _,Lm⟩ (λiA hV=>?_);have g2:=ah (cr.1.cO hV.1 λ_ _ h=>h) (cr.2.trans (hV.1.mono λ_ h=>h.elim));have ic:wr.heap.size<=gQ.heap.size:=cr.2.size;have hB:=ae hV.2;have h2:=ae (gT.ai hV.1);clear hV;have ag:=And.intro g2.1 (And.intro g2.2 (And.intro hB.o (And.intro (show bn<=gQ.heap.size by omega) bi)));revert ag;generalize aA.heap.size=aW;generalize gQ.heap.size=az;intro ag;exact key aW az j _ ag
   ·
    refine dP ?_;refine bw (λV=>Ext aA V/\aq V aA.heap.size 138 #[.string ⟨#[]⟩,.bool false]) ⟨Ll.alloc _,Lm⟩ (λgR hV=>?_);have ct:=ah (aw.1.cO hV.1 λ_ _ h=>h) (aw.2.trans (hV.1.mono λ_ h=>h.elim));have ie:wr.heap.size<=aA.heap.size:=aw.2.size;have hC:=ae hV.2;clear hV;refine ao ?_;refine dP ?_;refine bw (λV=>Ext gR V/\aq V gR.heap.size 5 #[.int .u8 bv]) ⟨Ll.alloc _,Lm⟩ (λiB hV=>?_);have g3:=ah (ct.1.cO hV.1 λ_ _ h=>h) (ct.2.trans (hV.1.mono λ_ h=>h.elim));have ig:wr.heap.size<=gR.heap.size:=ct.2.size;have hv:=ae hV.2;have hE:=ae (hC.ai hV.1);clear hV;obtain⟨e0,a6,aP⟩:=hv.two;refine cw (v:=?_) rfl (by rfl) (λV hV=>?_) ?_;rotate_left
    .have bX:=fu V (gR.heap.size) bv ((hV.cell aP ad).trans (e0 0))
     (go_simp<;>with_reducible rfl)
    try simp only[PU]
    clear e0 a6 aP
    iterate 2 refine tf ?_
    have ag:=And.intro g3.1 (And.intro g3.2 (And.intro hE.o (And.intro (show bn<=aA.heap.size by omega) bi)));revert ag;generalize gR.heap.size=aW;generalize aA.heap.size=az;intro ag;exact key aW az j _ ag
  ·
   refine dP ?_;refine bw (λV=>Ext wr V/\aq V wr.heap.size 138 #[.string ⟨#[]⟩,.bool false]) ⟨(Ll.alloc _).drew,Lm⟩ (λc2 hV=>?_);have aT:=ah (U.1.cO hV.1 λ_ _ h=>h) (U.2.trans (hV.1.mono λ_ h=>h.elim));have ih:wr.heap.size<=wr.heap.size:=U.2.size;have g7:=ae hV.2;clear hV;refine aY ?_ ?_
   ·
    refine dP ?_;refine bw (λV=>Ext c2 V/\aq V c2.heap.size 5 #[.int .u8 bv]) ⟨Ll.alloc _,Lm⟩ (λim hV=>?_);have g4:=ah (aT.1.cO hV.1 λ_ _ h=>h) (aT.2.trans (hV.1.mono λ_ h=>h.elim));have ii:wr.heap.size<=c2.heap.size:=aT.2.size;have gU:=ae hV.2;have hG:=ae (g7.ai hV.1);clear hV;obtain⟨e0,a6,aP⟩:=gU.two;refine cw (v:=?_) rfl (by rfl) (λV hV=>?_) ?_;rotate_left
    .have bX:=fu V (c2.heap.size) bv ((hV.cell aP ad).trans (e0 0))
     (go_simp<;>with_reducible rfl)
    try simp only[PU]
    clear e0 a6 aP;refine tf ?_;refine ao ?_;refine aB rfl (λK hK=>?_) rfl;go_simp;refine(a2 _ (S.heap.size+1) A n c l 3 (g4.1.cO (M:=λ_=>False) Ll (λ_ _ h=>h)) ad ad).mono ?_;rintro e io ⟨bU,rfl,bx,O,h,he⟩;obtain⟨j,rfl⟩:=KI bx;have bi:j<3:=ad;have aj:Fr (λb=>b=S.heap.size+1) im io:=he.fr;have g5:=ah h (g4.2.trans aj);have h3:=ae (gU.on aj ad);have hH:=ae (hG.on aj ad);refine dz hK (he.fr) ?_;clear hK K;clear h he aj bx O
    iterate 2 refine tf ?_
    have ag:=And.intro g5.1 (And.intro g5.2 (And.intro hH.o (And.intro (show bn<=wr.heap.size by omega) bi)));revert ag;generalize c2.heap.size=aW;exact r4
   ·
    refine aB rfl (λK hK=>?_) rfl;go_simp;refine(a2 _ (S.heap.size+1) A n c l 3 (aT.1.cO (M:=λ_=>False) Ll (λ_ _ h=>h)) ad ad).mono ?_;rintro e eP ⟨bU,rfl,bx,O,h,he⟩;obtain⟨j,rfl⟩:=KI bx;have bi:j<3:=ad;have aj:Fr (λb=>b=S.heap.size+1) c2 eP:=he.fr;have cC:=ah h (aT.2.trans aj);have hJ:=ae (g7.on aj ad);refine dz hK (he.fr) ?_;clear hK K;clear h he aj bx O;refine tf ?_;refine ao ?_;refine dP ?_;refine bw (λV=>Ext eP V/\aq V eP.heap.size 5 #[.int .u8 bv]) ⟨Ll.alloc _,Lm⟩ (λiC hV=>?_);have g6:=ah (cC.1.cO hV.1 λ_ _ h=>h) (cC.2.trans (hV.1.mono λ_ h=>h.elim));have ij:wr.heap.size<=eP.heap.size:=cC.2.size;have hw:=ae hV.2;have hL:=ae (hJ.ai hV.1);clear hV;obtain⟨e0,a6,aP⟩:=hw.two;refine cw (v:=?_) rfl (by rfl) (λV hV=>?_) ?_;rotate_left
    .have bX:=fu V (eP.heap.size) bv ((hV.cell aP ad).trans (e0 0))
     (go_simp<;>with_reducible rfl)
    try simp only[PU]
    clear e0 a6 aP
    iterate 2 refine tf ?_
    have ag:=And.intro g6.1 (And.intro g6.2 (And.intro hL.o (And.intro (show bn<=wr.heap.size by omega) bi)));revert ag;generalize eP.heap.size=aW;exact r4
 ·
  exact A8
 ):p:=h
end CA
open CA in
theorem Jm(S:World)(gO:Value)(Q:Exit->Act->World->Prop)(hQ0:∀c a d v w,Q (.panic c) (a.put d v) w->Q (.panic c) a w)
  (s:∀e4 bC,(∀a ab,Code.wp prog (nv 32) (Exit.then bC Q) a ab->e4 a ab)->(∀a ab,Code.wp prog (GI 42) Q a ab->bC a ab)->EJ S gO (Exit.then bC Q) e4)
  (K:Act->World->Prop) (hK:∀a ab,Code.wp prog (nv 19) Q a ab->K a ab):EI S gO Q K:=by
 unfold EI;intro ip A n c l ar MA mn mc M GA gn gc G av ba hr hs gJ gN u8 gK eO go gp cc bQ a4 u16 bR cq eR eS eT eU eV eW eY eZ e3 e6 e7 e8 e9 u32 fa fb fd fe ff fh fi fk fl fm fo fp fq fr fs ft fv fw fx fy fz fA fB fC fD fE fF fG fH fI fJ u64 fK fL fM fN fO fP fQ fR fS fT fU fV fW fX fY fZ f3 f4 f5 f6 f7 f8 f9 ga gb gd ge gf gg gh gi gj gk gl gm H I am aF aL aM aN aX a1 a8 bb bd bm bp bt bz bA bD bJ bV bY b1 b5 b8 b9 cb ce ch cj cl co cp cx cy cz cA cB cD cE cG cH cM cN cO cP cR cS cT cU cV cW cX cY cZ c4 c5 c6 c7 c8 c9 da db dc dd de df dg dh di dj dk dl dm dn dp dr dt du dv dw dx dy dA dC dD dE dF dG dI dJ dK dM dQ dR dS dT dV dW dX dY dZ d0 d1 d2 d3 d4 d5 d6 d7 d8 d9 ea eb ec ed ee ef eg eh ei ej ek el em en eo ep eq er es et eu ev ew ex ey ez eA eB eC eD eE eF eG eH eI eJ eL eM gt gu gv gw gx gy gz gA gB gC gD gE gF gH gI w aZ;obtain⟨bg,gX⟩:=aH aZ.Jm s;obtain⟨u,g9⟩:∃u,u=w.heap.size:=⟨_,rfl⟩
 rw[<-g9] at bg;clear aZ s g9;conv=>arg 2;whnf
 conv at hK=>enter [a,w,1,2];whnf
 obtain⟨a0,ai,af⟩:=bg.blk.two;go_wp2_with(fail);refine(a2 w (S.heap.size+1) A n c l 4 bg.src ad ad).mono ?_;rintro e aS ⟨cv,rfl,a3,bS,h,he⟩;obtain⟨N,rfl⟩:=KI a3;have hh:N<4:=ad;have gY:=ae (bg.next h he.fr);clear h he a0 ai af bg a3 bS;go_wp2_with(fail);go_loopw [12] (λcu wr=>∃(i:Nat) (FA:Lp) (fc:Nat) (F:List aJ),cu=.int .i64 i/\i<=N+1/\yV S u wr A n c l ar MA mn mc M GA gn gc G av ba FA i fc F) (λcu _=>N+1 - (intOf cu).toNat)
 case atStart=>exact⟨0,none,0,[],rfl,ad,gY.o⟩
 case round=>
  obtain⟨i,FA,fc,F,rfl,an,aZ⟩:=hrel;obtain⟨cL,rfl⟩:∃cL,cL=wr:=⟨wr,rfl⟩
  clear gY;have cn:=ae aZ;obtain⟨a0,ai,af⟩:=aZ.blk.two;have cd:F.length=i:=by have:=aZ.fs.len;simpa using this
  have hD:=aZ.hD;clear aZ;by_cases ak:i<=N
  .have gM:(i:Int)<=(N:Int):=ad;have e2:i<=3:=ad;have bX:=λ(W:World) (v:Int)=>kO W v;have hT:∀v,(strOf [byteOf v]).size=1:=λv=>aO _;go_upto_region 24 with(fail);clear hT;generalize hX:World.alloc _ _=g8;have b0:=iN hX;have ha:aq g8 (cL.heap.size+1) 136 #[.string (⟨#[102]⟩++strOf [byteOf (48+(i:Int))]),.slice none 0 0,.slice none 0 0]:=by
    rw[<-hX];exact aq.gz _ _ _ (by simp)
   have f2:=cn.src.cO b0 λ_ _ h=>h;have z:=aD f2 b0 ha;clear hX b0 ha f2 a0 ai af;by_cases f1:i=0
   case' pos=>
    have b7:((i:Int) == 0)=true:=by simp;omega
    obtain⟨f0,dH,dL⟩:=z.2.2.two;have ck:=ae f1;clear f1;go_upto_region 26 with(fail);generalize hX:World.setCell _ _ _=Y;have J:=cJ hX;have ix:=cn.blk.lt;have hF:cm Y (S.heap.size+1) A n c l/\Fr (λb=>b=S.heap.size+1) cL Y/\aq Y (cL.heap.size+1) 136 #[.string (jx i),.slice none 0 0,.slice none 0 0]:=by
     refine⟨z.1.cO J (λb O h=>ad),(z.2.1.mono λ_ h=>h.elim).eN (J.below z.2.1.size λk ap h=>ad),?_⟩;rw[<-hX,ck.o];exact z.2.2.aM 0 _
    clear hX J f0 dH dL z
   case' neg=>
    have b7:((i:Int) == 0)=false:=by simp;omega
    have ck:=ae f1;clear f1;go_upto_region 26 with(fail);have hF:cm g8 (S.heap.size+1) A n c l/\Fr (λb=>b=S.heap.size+1) cL g8/\aq g8 (cL.heap.size+1) 136 #[.string (jx i),.slice none 0 0,.slice none 0 0]:=⟨z.1,z.2.1.mono λ_ h=>h.elim,by have:=z.2.2;rw[Dv ad ck.o rfl] at this;exact this⟩
    clear z;revert hF;generalize g8=Y;intro hF
   all_goals
    clear bX;have bT:=ae hF;obtain⟨a0,ai,af⟩:=(cn.next bT.1 bT.2.1).blk.two;clear hF;go_wp2_with(fail);refine(a2 Y (S.heap.size+1) A n c l 3 bT.1 ad ad).mono ?_;rintro e hl ⟨bO,rfl,a3,bS,h,he⟩;obtain⟨hQ,rfl⟩:=KI a3;have bB:hQ<=2:=ad;have bo:=aD h (bT.2.1.trans he.fr) (bT.2.2.on he.fr (aC cn.blk.lt));clear h he a0 ai af bT a3 bS;go_wp2_with(fail);go_loopw [14] (λhj b4=>∃(m:Nat) (PA:Lp) (pn pc:Nat) (ps:List (ByteArray×Bool)),hj=.int .i64 m/\m<=2/\pn+m<=2/\(i=0->ps=[])/\(i≠0->ps.map (·.1)++eX m=eX hQ)/\cm b4 (S.heap.size+1) A n c l/\Fr (λb=>b=S.heap.size+1) cL b4/\aq b4 (cL.heap.size+1) 136 #[.string (jx i),.slice PA pn pc,.slice none 0 0]/\Gr (λ_=>False) (cL.heap.size+1+1) 138 2 b4 PA pn pc (ps.map ds)) (λhj _=>(intOf hj).toNat)
    case atStart=>exact⟨hQ,none,0,0,[],rfl,bB,ad,λ_=>rfl,λ_=>rfl,bo.1,bo.2.1,bo.2.2,Gr.nil _ _ _ _ _⟩
    case round=>
     obtain⟨m,PA,pn,pc,ps,rfl,al,fn,hm,hn,hF⟩:=hrel;clear bo;have bT:=ae hF;have gL:=ah hm hn;have hN:=cn.next hF.1 hF.2.1;obtain⟨a0,ai,af⟩:=hN.blk.two;obtain⟨f0,dH,dL⟩:=hF.2.2.1.two;have hx:=ae hN;clear hF hm hn hN;by_cases ak:0<m/\0<i
     .obtain⟨hi,cg⟩:=ak;have q1:decide ((m:Int) > 0)=true:=by simp;omega
      have cI:decide ((i:Int) > 0)=true:=by simp;omega
      have hS:(m:Int)<=2:=ad;have c3:¬S.heap.size+1+1=S.heap.size+1:=ad;have cf:S.heap.size+1+1<wr.heap.size:=hx.blk.lt;clear f0 dH dL;go_upto_region 29 with(fail);exact zO
     .have dq:(¬0<m)\/((0<m)/\¬0<i):=by
       by_cases ac:0<m
       .exact .inr ⟨ac,λh=>ak ⟨ac,h⟩⟩
       .exact .inl ac
      have ho:∃bc,bc<=2/\ps.map (·.1)=eX bc:=by
       by_cases ac:i=0
       .exact⟨0,ad,by rw[gL.1 ac];rfl⟩
       .have au:m=0:=by
         by_cases aU:0<m
         .exact absurd ⟨aU,ad⟩ ak
         .omega
        have aU:=gL.2 ac;rw[au] at aU;exact⟨hQ,bB,by simpa[eX] using aU⟩
      have h5:=ae ho;clear ak ho;rcases dq with q1|⟨q1,cI⟩
      ·
       exact FW
      ·
       exact FW
  .have gM:¬(i:Int)<=(N:Int):=ad;go_upto_region 32 with(fail);have ci:=gX.o _ _ (by assumption) (by assumption);unfold EJ at ci;exact ci u A n c l ar MA mn mc M GA gn gc G av ba FA i fc F cL ad cn.o
theorem qM.lq{G:List (ByteArray×Int)}{M:List bG}{F:List aJ}(a2:rU G)(ck:G.length<=2)(hm:m2 M)(ce:1<=M.length/\M.length<=4)(J:∀i f,F[i]?=some f->f.name=jx i/\(∃n,n<=2/\f.params.map (·.1)=eX n)/\(i=0->f.params=[]))(cd:1<=F.length/\F.length<=4):gB ⟨G,M,F⟩:=
 ⟨ck,ce,cd,a2,hm,J⟩
theorem D9{F:List aJ}{i:Nat}(J:F[i]?=some f)(b:an):(F.set i {f with body:=b}).map (λf=>(f.name,f.params))=F.map λf=>(f.name,f.params):=by
 exact y1
theorem yC{F:List aJ}{i:Nat}(J:F[i]?=some f)(b:an):(F.set i {f with body:=b}).map (·.name)=F.map (·.name):=by
 exact y1
structure uQ(G:List (ByteArray×Int))(M:List bG)(F:List aJ)(k L:Nat):Prop where
 lq:∀i f,F[i]?=some f->f.name=jx i/\(∃n,n<=2/\f.params.map (·.1)=eX n)/\(i=0->f.params=[])
 made:∀i f,F[i]?=some f->i<k->e4 (hR ⟨G,M,F⟩ f) 2 (fo ⟨G,M,F⟩++cr f.params) (bh ⟨G,M,F⟩++f.params.map (·.1)) f.body
 bN:∀i f,F[i]?=some f->k<=i->f.body=.nil
 num:(F.map λf=>f.body.num).sum+2*L<=48
theorem qM.start{G:List (ByteArray×Int)}{M:List bG}{F:List aJ}(h:qM F):uQ G M F 0 24:=by
 refine⟨λi f J=>⟨(h i f J).1,(h i f J).2.1,(h i f J).2.2.1⟩,λi f _ an=>ad,λi f J _=>(h i f J).2.2.2,?_⟩;have h0:(F.map λf=>f.body.num).sum=0:=by
  have ac:F.map (λf=>f.body.num)=F.map λ_=>0:=List.map_congr_left λf J=>by
   obtain⟨i,an⟩:=List.getElem?_of_mem J;rw[(h i f an).2.2.2];rfl
  rw[ac];clear ac h
  induction F with
  | nil=>rfl
  | cons f F ao=>simpa using ao
 omega
theorem FG{F:List aJ}:∀{i:Nat} {f:aJ},F[i]?=some f->f.body=.nil->((F.set i {f with body:=b}).map λf=>f.body.num).sum=(F.map λf=>f.body.num).sum+b.num:=by
 induction F with
 | nil=>intro i f J;simp at J
 | cons g F ao=>
  intro i f J hn
  cases i with
  | zero=>
   simp at J;subst J;simp[hn,an.num]
   omega
  | succ i=>
   simp at J;have:=ao (i:=i) J hn;simp only[List.set_cons_succ,KJ,List.sum_cons,this];omega
theorem uQ.next{G:List (ByteArray×Int)}{M:List bG}{F:List aJ}{k L R:Nat}(h:uQ G M F k L)(J:F[k]?=some f){ls:List aA}(hm:Made (hR ⟨G,M,F⟩ f) 2 (fo ⟨G,M,F⟩++cr f.params) (bh ⟨G,M,F⟩++f.params.map (·.1)) L R ls):
  uQ G M (F.set k {f with body:=.eM ls}) (k+1) R:=by
 have hs:=D9 J (.eM ls);have hn:=yC J (.eM ls);have ak:=(List.getElem?_eq_some_iff.1 J).1;have hG:∀g,hR ⟨G,M,F.set k {f with body:=.eM ls}⟩ g=hR ⟨G,M,F⟩ g:=λg=>by simp only[hR,sigs,hs]
 have hT:bh ⟨G,M,F.set k {f with body:=.eM ls}⟩=bh ⟨G,M,F⟩:=by simp only[bh,fo,hn]
 have P:∀i g,(F.set k {f with body:=.eM ls})[i]?=some g->(i=k/\g={f with body:=.eM ls})\/(i≠k/\F[i]?=some g):=λi g a2=>by
  by_cases an:k=i
  .subst an;rw[List.getElem?_set_self ak] at a2;injection a2 with a2;exact .inl ⟨rfl,a2.symm⟩
  .rw[List.getElem?_set_ne an] at a2;exact .inr ⟨λh=>an h.symm,a2⟩
 refine⟨λi g a2=>?_,λi g a2 an=>?_,λi g a2 an=>?_,?_⟩
 .rcases P i g a2 with⟨rfl,rfl⟩|⟨_,au⟩
  .exact h.lq _ f J
  .exact h.lq _ _ au
 .rw[hG,hT];rcases P i g a2 with⟨rfl,rfl⟩|⟨ac,au⟩
  .exact hm.wf
  .exact h.made i g au ad
 .rcases P i g a2 with⟨rfl,rfl⟩|⟨ac,au⟩
  .omega
  .exact h.bN i g au ad
 .rw[FG J (h.bN k f J (KD _))];have ac:=hm.num;have au:=hm.le;have aU:=h.num;omega
theorem uQ.wf{G:List (ByteArray×Int)}{M:List bG}{F:List aJ}{L:Nat}(h:uQ G M F F.length L)(a2:rU G)(ck:G.length<=2)(hm:m2 M)(ce:1<=M.length/\M.length<=4)(cd:1<=F.length/\F.length<=4):ot ⟨G,M,F⟩:=by
 refine(qM.lq a2 ck hm ce h.lq cd).wf (λf J=>?_) (by have:=h.num;simp only;omega);obtain⟨i,an⟩:=List.getElem?_of_mem J;have ak:=(List.getElem?_eq_some_iff.1 an).1;exact dd _ 2 4 _ _ _ _ (λ_ h=>h) (λ_ _ h=>h) ad (h.made i f an ak)
theorem lS{w:World}{cs:List Value}:(dr f).rep w P cs↔∃(A:Lp) (n c:Nat) (A2:Lp) (n2 c2:Nat),cs=[.string f.name,.slice A n c,.slice A2 n2 c2]/\n<=c/\Sl w P A n (f.params.map ds)/\n2<=c2/\Sl w P A2 n2 (c4 f.body):=by
 unfold dr;rw[bI,cp];constructor
 .rintro⟨y,rfl,h⟩;obtain⟨A,n,c,cd,rfl,hc,hs,h⟩:=aN.1 h;obtain⟨A2,n2,c2,bv,rfl,ci,bN,h⟩:=aN.1 h;rw[aP] at h;subst h;exact⟨A,n,c,A2,n2,c2,rfl,hc,hs,ci,bN⟩
 .rintro⟨A,n,c,A2,n2,c2,rfl,hc,hs,ci,bN⟩;exact⟨_,rfl,aN.2 ⟨A,n,c,_,rfl,hc,hs,aN.2 ⟨A2,n2,c2,[],rfl,ci,bN,aP.2 rfl⟩⟩⟩
theorem rk(f:aJ):(dr f).sz=3:=rfl
theorem rJ{w:World}{P:Nat->Prop}{b:an}{bq:Lp}{on b6:Nat}(hc:on<=b6)(bS:Sl w P bq on (c4 b)):∀(F:List aJ) (i:Nat) (xs:List Value) (f:aJ),D.aQ w P (F.map dr) xs->F[i]?=some f->D.aQ w P ((F.set i {f with body:=b}).map dr) (xs.set (i*3+2) (.slice bq on b6))
 | [],i,xs,f,h,J=>by simp at J
 | x::F,0,xs,f,h,J=>by
  simp only[List.getElem?_cons_zero,Lg] at J;subst J;rw[KJ] at h;obtain⟨j,d,rfl,hx,bb⟩:=gP.1 h;obtain⟨A,n,c,A2,n2,c2,rfl,ac,au,_,_⟩:=lS.1 hx;rw[List.set_cons_zero,KJ]
  exact gP.2 ⟨[.string x.name,.slice A n c,.slice bq on b6],d,rfl,lS.2 ⟨A,n,c,bq,on,b6,rfl,ac,au,hc,bS⟩,bb⟩
 | x::F,i+1,xs,f,h,J=>by
  rw[List.getElem?_cons_succ] at J;rw[KJ] at h;obtain⟨j,d,rfl,hx,bb⟩:=gP.1 h;have hl:=(D.k5 _ _ hx).trans (rk x);have ao:=rJ hc bS F i d f bb J;rw[List.set_cons_succ,KJ,List.set_append_right _ _ ad,hl,show (i+1)*3+2 - 3=i*3+2 by omega];exact gP.2 ⟨_,_,rfl,hx,ao⟩
theorem Gr.Ju{w:World}{n c i:Nat}{F:List aJ}{bq:Lp}{on b6:Nat}(h:Gr P B e 3 w (some ⟨g,0,none⟩) n c (F.map dr))(J:F[i]?=some f)(hc:on<=b6)(bS:Sl w (lu P w (.slice (some ⟨g,0,none⟩) n c)) bq on (c4 b)):
  Gr P B e 3 (w.setCell ⟨g,i*3+2,none⟩ (.slice bq on b6)) (some ⟨g,0,none⟩) n c ((F.set i {f with body:=b}).map dr):=by
 obtain⟨hl,xs,ac,au⟩:=h;have cb:Fr (λb=>b=g) w (w.setCell ⟨g,i*3+2,none⟩ (.slice bq on b6)):=(Fr.refl (λb=>b=g) w).setCell (.inl rfl) _;have hs:=cb.size;have aI:=(List.getElem?_eq_some_iff.1 J).1;refine⟨by simpa using hl,xs.set (i*3+2) (.slice bq on b6),⟨by rw[List.length_set];exact ac.1,?_⟩,?_⟩
 .rcases ac.2 with⟨bI,_⟩|⟨ah,cap,cur,bI,O,a2,hn,a1,bZ,ht⟩
  .cases bI
  .injection bI with bx _ Z;injection bx with bx;injection bx with bx;subst bx;refine .inr ⟨g,cap,cur.setIfInBounds (i*3+2) (.slice bq on b6),by rw[Z],O,aq.aM (show aq w g e cur from a2) (i*3+2) _,hn,a1,by simpa using bZ,?_⟩;rw[Array.toList_setIfInBounds,List.take_set,ht]
 .refine D.bV (λb O=>⟨O.1,KE O.2.1 hs,O.2.2⟩) _ _ (D.bU (λb O=>cb.block b O.2.1 λj=>O.2.2 ?_) _ _ (rJ hc bS F i xs f au J));subst j;rfl
theorem Gr.I0{w:World}{n c:Nat}{A:Lp}{l:List D}(h:Gr P B e z w A n c l)(hn:0<n):∃g,A=some ⟨g,0,none⟩/\B<=g/\g<w.heap.size:=by
 obtain⟨_,xs,ac,_⟩:=h;rcases ac.2 with⟨_,h0⟩|⟨g,cap,cur,bI,O,a2,_⟩
 .omega
 .injection bI with bI _ _;exact⟨g,bI,O,(Array.getElem?_eq_some_iff.1 a2).1⟩
structure ox(S:World)(u:Nat)(A:Lp)(n c:Nat)(l:List Int)(ar:Bool)(MA:Lp)(mn mc:Nat)(M:List bG)(GA:Lp)(gn gc:Nat)(G:List (ByteArray×Int))(av:Lp)(ba:Nat)(fg fn fc:Nat)(w:World)(F:List aJ)(i L:Nat):Prop where
 src:cm w (S.heap.size+1) A n c l
 blk:aq w (S.heap.size+1+1) 125 #[.pointer (some ⟨S.heap.size+1,0,none⟩),.slice GA gn gc,.slice MA mn mc,.slice (some ⟨fg,0,none⟩) fn fc,.int .i64 L,.bool ar]
 res:aq w S.heap.size 27 #[.slice none 0 0,.slice none 0 0,.slice none 0 0]
 ms:Sl w (λb=>S.heap.size+1+1+1<=b/\b<u) MA mn (M.map ey)
 gs:Sl w (λb=>S.heap.size+1+1+1<=b/\b<u) GA gn (G.map iz)
 vs:Sl w (λb=>S.heap.size+1+1+1<=b/\b<u) av gn ((G.map (·.1)).map D.s)
 fs:Gr (λb=>u<=b) u 136 3 w (some ⟨fg,0,none⟩) fn fc (F.map dr)
 mc:mn<=mc
 gc:gn<=gc
 nm:1<=mn/\mn<=4
 ok:m2 M
 ng:gn<=2
 yM:rU G
 nf:1<=fn/\fn<=4
 bd:uQ G M F i L
 kA:L<=24
 ext:Ext S w
 hD:S.heap.size+1+1+1<=u/\u<=w.heap.size
section
variable {S w ab:World} {u:Nat} {A:Lp} {n c:Nat} {l:List Int} {ar:Bool} {MA:Lp} {mn mc:Nat} {M:List bG} {GA:Lp} {gn gc:Nat} {G:List (ByteArray×Int)} {av:Lp} {ba:Nat} {FA:Lp} {fg fn fc:Nat} {F:List aJ} {i L R:Nat}
theorem yV.Jn(h:yV S u w A n c l ar MA mn mc M GA gn gc G av ba FA fn fc F)(hn:1<=fn):∃fg,FA=some ⟨fg,0,none⟩/\ox S u A n c l ar MA mn mc M GA gn gc G av ba fg fn fc w F 0 24:=by
 obtain⟨fg,rfl,_⟩:=h.fs.I0 ad;exact⟨fg,rfl,h.src,h.blk,h.res,h.ms,h.gs,h.vs,h.fs,h.mc,h.gc,h.nm,h.ok,h.ng,h.yM,⟨hn,h.nf⟩,h.I7.start,KD _,h.ext,h.hD⟩
theorem ox.len(h:ox S u A n c l ar MA mn mc M GA gn gc G av ba fg fn fc w F i L):F.length=fn/\M.length=mn/\G.length=gn:=⟨by have:=h.fs.len;simpa using this,by have:=h.ms.1;simpa using this,by have:=h.gs.1;simpa using this⟩
theorem ox.own(h:ox S u A n c l ar MA mn mc M GA gn gc G av ba fg fn fc w F i L):u<=fg/\fg<w.heap.size:=h.fs.lt rfl
theorem ox.jy(h:ox S u A n c l ar MA mn mc M GA gn gc G av ba fg fn fc w F i L):∀f∈F,f.params.length<=2:=λf J=>by
 obtain⟨i,an⟩:=List.getElem?_of_mem J;obtain⟨n,hn,hp⟩:=(h.bd.lq i f an).2.1;have:=congrArg List.length hp;rw[KH,l3] at this;omega
theorem ox.ai(h:ox S u A n c l ar MA mn mc M GA gn gc G av ba fg fn fc w F i L)(O:Ext w ab):ox S u A n c l ar MA mn mc M GA gn gc G av ba fg fn fc ab F i L:=by
 have hD:=h.hD;have ap:∀b,(S.heap.size+1+1+1<=b/\b<u)->ab.heap[b]?=w.heap[b]?:=λb hp=>O.block b (aC hp.2) (λh=>h);exact⟨h.src.cO O λ_ _ h=>h,h.blk.ai O,h.res.ai O,h.ms.ak ap,h.gs.ak ap,h.vs.ak ap,h.fs.ai O,h.mc,h.gc,h.nm,h.ok,h.ng,h.yM,h.nf,h.bd,h.kA,h.ext.trans O,hD.1,by have:=O.size;omega⟩
theorem ox.wr(h:ox S u A n c l ar MA mn mc M GA gn gc G av ba fg fn fc w F i L):gw w ⟨S.heap.size+1,S.heap.size+1+1,A,n,c,l,GA,gn,gc,MA,mn,mc,some ⟨fg,0,none⟩,fn,fc,M,F,ar⟩ L:=by
 have hD:=h.hD;exact⟨h.src,h.blk,Nat.lt_succ_self _,h.ms.mono λb O=>⟨ad,λhm=>by rcases hm with hm|hm<;>(simp only at hm;omega)⟩,h.fs.sl (λb O hp=>⟨O,λhm=>by rcases hm with hm|hm<;>(simp only at hm;omega)⟩) (λb O hp=>⟨O,λhm=>by rcases hm with hm|hm<;>(simp only at hm;omega)⟩),h.nm,h.nf,
  λm hm=>by obtain⟨k,ap⟩:=List.getElem?_of_mem hm;exact⟨(h.ok k m ap).2.1,(h.ok k m ap).2.2.1⟩,h.jy,h.kA⟩
theorem ox.lq(h:ox S u A n c l ar MA mn mc M GA gn gc G av ba fg fn fc w F i L):gB ⟨G,M,F⟩:=qM.lq h.yM (lK h.len.2.2 h.ng) h.ok (lK h.len.2.1 h.nm) h.bd.lq (lK h.len.1 h.nf)
theorem ox.body(h:ox S u A n c l ar MA mn mc M GA gn gc G av ba fg fn fc w F i L){f:aJ}(J:F[i]?=some f){ls:List aA}{bq:Lp}{on b6:Nat}
  (hw:gw ab ⟨S.heap.size+1,S.heap.size+1+1,A,n,c,l,GA,gn,gc,MA,mn,mc,some ⟨fg,0,none⟩,fn,fc,M,F,ar⟩ R) (O:Fr (λb=>b=S.heap.size+1\/b=S.heap.size+1+1) w ab)
  (hm:Made (hR ⟨G,M,F⟩ f) 2 (fo ⟨G,M,F⟩++cr f.params) (bh ⟨G,M,F⟩++f.params.map (·.1)) L R ls) (hc:on<=b6) (hs:Sl ab (fresh w ab) bq on (ls.map bg)) :
  ox S u A n c l ar MA mn mc M GA gn gc G av ba fg fn fc (ab.setCell ⟨fg,i*3+2,none⟩ (.slice bq on b6)) (F.set i {f with body:=.eM ls}) (i+1) R:=by
 have hD:=h.hD;have bn:=h.own;have bZ:=O.size;have az:Fr (λb=>b=fg) ab (ab.setCell ⟨fg,i*3+2,none⟩ (.slice bq on b6)):=(Fr.refl (λb=>b=fg) ab).setCell (.inl rfl) _;have bA:=az.size;have ap:∀b,(S.heap.size+1+1+1<=b/\b<u)->(ab.setCell ⟨fg,i*3+2,none⟩ (.slice bq on b6)).heap[b]?=w.heap[b]?:=λb hp=>(az.block b (aC hp.2) (aC hp.2)).trans (O.block b (aC hp.2) λag=>by have:=hp.1;rcases ag with ag|ag<;>omega);have a2:Gr (λb=>u<=b) u 136 3 ab (some ⟨fg,0,none⟩) fn fc (F.map dr):=h.fs.c8 O λb hm _=>by rcases hm with hm|hm<;>exact⟨ad,ad⟩
 have aN:Ext S ab:=Fr.low (M:=λb=>b=S.heap.size+1\/b=S.heap.size+1+1) ((h.ext.mono λ_ h=>h.elim).trans O) λk ap=>by rcases ap with ap|ap<;>omega
 refine⟨hw.src.cO az λb ak ag=>by simp only at ak;omega,hw.blk.on az (by show ¬S.heap.size+1+1=fg;omega),(h.res.on O ad).on az ad,h.ms.ak ap,h.gs.ak ap,h.vs.ak ap,?_,h.mc,h.gc,h.nm,h.ok,h.ng,h.yM,h.nf,h.bd.next J hm,hw.kA,
  Fr.low (M:=λb=>b=fg) ((aN.mono λ_ h=>h.elim).trans az) λk ap=>by have:=h.ext.size;omega,hD.1,ad⟩
 refine a2.Ju J hc ?_;rw[mr];exact hs.mono λb O=>⟨by have:=O.1;omega,O.2,λh=>by injection h with h;have:=O.1;simp only at h;omega⟩
theorem ox.done(h:ox S u A n c l ar MA mn mc M GA gn gc G av ba fg fn fc w F fn L):ot ⟨G,M,F⟩:=by
 have hl:=h.len;have O:=h.bd;rw[<-hl.1] at O;exact O.wf h.yM (aC h.ng) h.ok (aC h.nm) (aC h.nf)
end
structure RW(s:Nat)(v0 v1 v2 aj bj:Value)(w ab:World):Prop where
 fr:Fr (λb=>b=s\/b=s+1) w ab
 wb:∀L:Int,aq w (s+1) 125 #[v0,v1,v2,aj,.int .i64 L,bj]->∃R:Int,aq ab (s+1) 125 #[v0,v1,v2,aj,.int .i64 R,bj]
theorem RW.refl{s:Nat}{v0 v1 v2 aj bj:Value}(w:World):RW s v0 v1 v2 aj bj w w:=⟨Ll,λL h=>⟨L,h⟩⟩
theorem RW.trans{s:Nat}{v0 v1 v2 aj bj:Value}{w ab aT:World}(h:RW s v0 v1 v2 aj bj w ab)(k:RW s v0 v1 v2 aj bj ab aT):RW s v0 v1 v2 aj bj w aT:=⟨h.fr.trans k.fr,λL O=>by
 obtain⟨bJ,ac⟩:=h.wb L O;exact k.wb bJ ac⟩
theorem Eu(p:kj)(L:Nat)(V T:Lq)(N:Lp)(bc aa:Nat)(aZ:ByteArray)(ps:List (ByteArray×Bool))(QA:Lp)(cg qc:Nat)(bx:Value)(w:World)(hw:gw w p L)(hN:Sl w (off p.MW w) N bc (V.map D.s))(hV:V.length+L<=60)(J:mf T L)
  (cl:Sl w (off p.MW w) QA cg (ps.map ds)) (bv:cg<=2):Calls prog 66 #[.pointer (some ⟨p.wb,0,none⟩),.agg #[.string aZ,.slice QA cg qc,bx],.slice N bc aa,.int .i64 2,.int .i64 6] w (FP p 2 V T ps L w):=
 wV p L 2 6 V T N bc aa aZ ps QA cg qc bx w ad ad hw hN hV J cl bv
structure EG(fg i:Nat)(f:aJ)(QA:Lp)(cg qc:Nat)(fu:Lp)(bn bc:Nat)(w:World):Prop where
 c0:w.cell? ⟨fg,i*3,none⟩=some (.string f.name)
 c1:w.cell? ⟨fg,i*3+1,none⟩=some (.slice QA cg qc)
 c2:w.cell? ⟨fg,i*3+2,none⟩=some (.slice fu bn bc)
theorem EG.ak{fg i:Nat}{QA:Lp}{cg qc:Nat}{fu:Lp}{bn bc:Nat}{w ab:World}(h:EG fg i f QA cg qc fu bn bc w)(ap:ab.heap[fg]?=w.heap[fg]?):EG fg i f QA cg qc fu bn bc ab:=
 ⟨(World.cell?_of_block (w:=w) ap).trans h.c0,(World.cell?_of_block (w:=w) ap).trans h.c1,(World.cell?_of_block (w:=w) ap).trans h.c2⟩
theorem ox.Ig{S w:World}{u:Nat}{A:Lp}{n c:Nat}{l:List Int}{ar:Bool}{MA:Lp}{mn mc:Nat}{M:List bG}{GA:Lp}{gn gc:Nat}{G:List (ByteArray×Int)}{av:Lp}{ba:Nat}{fg fn fc:Nat}{F:List aJ}{i L:Nat}
  (h:ox S u A n c l ar MA mn mc M GA gn gc G av ba fg fn fc w F i L) (an:i<fn):∃(f:aJ) (QA:Lp) (cg qc:Nat) (fu:Lp) (bn bc:Nat),F[i]?=some f/\cg<=2/\cg<=qc/\Sl w (λb=>u<=b/\b<w.heap.size) QA cg (f.params.map ds)/\EG fg i f QA cg qc fu bn bc w:=by
 obtain⟨ch,c5,f,cs,m,cw,r,aP,bj,hc⟩:=Sl.g0 (z:=3) (h.fs.sl (Q:=λb=>u<=b/\b<w.heap.size) (λb ak h=>⟨h,ak⟩) (λb ak h=>⟨h,ak⟩)) (λ_=>rk _) an;obtain⟨QA,cg,qc,fu,bn,bc,rfl,gr,bS,_,_⟩:=lS.1 aP;injection m with m;injection m with ac au aU;subst ac;subst au;have bv:cg<=2:=by
  have bE:=h.jy f (KG r);have cF:=bS.1;rw[KH] at cF;omega
 have c0:=hc 0 _ rfl;have c1:=hc 1 _ rfl;have c2:=hc 2 _ rfl;simp only[KV,KN] at c0 c1 c2;exact⟨f,QA,cg,qc,fu,bn,bc,r,bv,gr,bS,c0,c1,c2⟩
theorem Gr.IZ{w:World}{n c:Nat}{l:List D}(h:Gr P B e z w (some ⟨g,0,none⟩) n c l):∃cur,aq w g e cur:=by
 obtain⟨_,xs,ac,_⟩:=h;rcases ac.2 with⟨bI,_⟩|⟨ah,cap,cur,bI,O,a2,_⟩
 .cases bI
 .injection bI with bI _ _;injection bI with bI;injection bI with bI;subst bI;exact⟨cur,a2⟩
theorem qU{ps:List (ByteArray×Bool)}{j:Nat}{q:ByteArray×Bool}(h:ps[j]?=some q):cr (ps.take (j+1))=cr (ps.take j)++(if q.2 then [] else [q.1]):=by
 unfold cr;rw[List.take_add_one,h];obtain⟨x,b⟩:=q;cases b<;>simp
theorem sI(ps:List (ByteArray×Bool)):(cr ps).length<=ps.length:=by
 unfold cr;rw[KH];exact List.length_filter_le _ _
theorem ox.Jr{S w ab:World}{u:Nat}{A:Lp}{n c:Nat}{l:List Int}{ar:Bool}{MA:Lp}{mn mc:Nat}{M:List bG}{GA:Lp}{gn gc:Nat}{G:List (ByteArray×Int)}{av:Lp}{ba:Nat}{fg fn fc:Nat}{F:List aJ}{L:Nat}
  (h:ox S u A n c l ar MA mn mc M GA gn gc G av ba fg fn fc w F fn L) (O:Fr (λb=>b=S.heap.size) w ab):kb S (.returned (.agg #[.slice GA gn gc,.slice MA mn mc,.slice (some ⟨fg,0,none⟩) fn fc])) ab:=by
 have hD:=h.hD;have hs:=O.size;have ap:∀b,(S.heap.size+1+1+1<=b/\b<u)->ab.heap[b]?=w.heap[b]?:=λb hp=>O.block b (aC hp.2) (aC hp.1);have bW:Gr (λb=>u<=b) u 136 3 ab (some ⟨fg,0,none⟩) fn fc (F.map dr):=h.fs.c8 O λb hm _=>⟨ad,ad⟩
 exact⟨⟨G,M,F⟩,GA,gn,gc,MA,mn,mc,_,fn,fc,rfl,h.done,h.gc,h.mc,h.fs.cap.1,(h.gs.ak ap).mono λb hp=>⟨by have:=hp.1;omega,by have:=hp.2;omega⟩,(h.ms.ak ap).mono λb hp=>⟨by have:=hp.1;omega,by have:=hp.2;omega⟩,
  bW.sl (λb ak hp=>⟨ad,ak⟩) (λb ak hp=>⟨ad,ak⟩),Fr.low (M:=λb=>b=S.heap.size) ((h.ext.mono λ_ h=>h.elim).trans O) λk ap=>ad⟩
end Go.Proofs.YtglbpimocmhojaaGreat

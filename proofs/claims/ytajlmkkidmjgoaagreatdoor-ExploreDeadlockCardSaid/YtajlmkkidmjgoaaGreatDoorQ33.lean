/- Part 33 of the proof. No condition of its own. -/
import Derived.Test.YtajlmkkidmjgoaaGreatDoorQ32
namespace Go.Proofs.YtajlmkkidmjgoaaGreatDoor
open Go.RowKit Go.Proofs.Tryz
set_option maxRecDepth 1000000
set_option maxHeartbeats 25600000
set_option linter.unusedVariables false
variable{B g z:Nat}{P:Nat->Prop}{p:Prop}{e:TypeId}{f:aE}{b:ak}
namespace zG
theorem gj(h:p:=by
 refine cr ?_;generalize cl:World.setCell _ _ _=hL;have hb:wr.heap.size<=a4:=ad;obtain⟨bk,bt,bj⟩:=dG (M:=λb=>b=S.heap.size+1) [.string ((⟨#[112]⟩:ByteArray)++strOf [byteOf bv]),.bool _] (by rfl) b5 ag hb cl;obtain⟨hn,bk⟩:∃hn,an hL a4 106 #[.string ((⟨#[112]⟩:ByteArray)++strOf [byteOf bv]),.bool hn]:=⟨_,bk⟩
 rw[BI ad aJ.o] at bk;have iy:=b9.blk.lt;have iq:=bV.2.2.1.lt;have bc:=cK (ao.cz bj λb O h=>ad) (bV.2.1.trans bt) (bV.2.2.1.on bt ad) (bV.2.2.2.dh bt (λb O _=>⟨λh=>h,ad⟩)) bk;have cb:T.heap.size+1+1<=hL.heap.size:=by have:=bt.size;omega
 clear cl bk bt bj ao ag b5 bU aW bx;obtain⟨f0,c6,e1⟩:=bc.2.2.1.two;obtain⟨bU,aW,bx⟩:=bc.2.2.2.2.two;go_wp2_with(at_builtin;refine bN AG rfl (.tmp 167) (.tmp 169) rfl bc.2.2.2.1 (rE.2 rfl:(ch (sL m,hn)).rep hL _ _) rfl rfl rfl ad ad cb ?_;intro ip hT hW hO c2 h6 h5;have f2:=bc.2.2.1.on c2 (λO=>by have:=(bc.2.2.2.1.lt O).1;omega);have gS:=ai hO c2;clear f0 c6 e1 hO c2 h6 h5 bU aW bx;obtain⟨f0,c6,e1⟩:=f2.two;clear f2);generalize hX:World.setCell _ _ _=hU;have b3:∀b,(Value.slice PA pn pc).ownBlock=some b->T.heap.size+1+1<=b:=λb O=>(bc.2.2.2.1.lt O).1;have c3:=cT hX;have bK:an hU (T.heap.size+1) 104 #[.string (iU i),.slice ip (pn+1) hT,.slice none 0 0]:=hX▸(bc.2.2.1.on gS.2 (λO=>by have:=b3 _ O;omega)).aI 1 _;have f1:=(bc.1.cz gS.2 λb O h=>by have:=b3 b h;omega).cz c3 λb O h=>ad;have aV:Fr (λb=>b=S.heap.size+1) T hU:=(bc.2.1.eA (gS.2.below bc.2.1.size λk ap h=>by have:=b3 k h;omega)).eA (c3.below (mI bc.2.1.size gS.2.size) λk ap h=>ad);have hi:=gS.1.dh c3 λb O _=>⟨λh=>h,ad⟩
 have hc:=bF f1 aV bK hi;clear hX c3 bK f1 aV hi f0 c6 e1 b3;obtain⟨b0,bd⟩:∃b0,m=b0+1:=⟨m - 1,ad⟩
 have a6:(m:Int) - 1=((b0:Nat):Int):=ad;go_roundw
 case rel=>
  refine⟨b0,ip,pn+1,hT,ps++[(sL m,hn)],by first|(rw[a6])|(congr 1)|go_num,ad,ad,λh=>ad,λh=>?_,hc.1,hc.2.1,hc.2.2.1,by rw[Ig];exact hc.2.2.2⟩;have ac:=gH.2 h;rw[bd] at ac;rw[bd,<-ac];simp[eG]
 case measure=>exact aF
 ):p:=h
theorem yy(h:p:=by
 generalize g9:IntKind.u8.wrap (IntKind.i64.wrap (48+(m:Int)))=bv;obtain⟨bJ,hM⟩:∃bJ,bJ=wr.heap.size:=⟨_,rfl⟩
 have aJ:=ae g9;clear g9;have ho:(strOf [byteOf bv]).size=1:=aK _;have aD:=ai bV.1 (Fr.refl (λb=>b=S.heap.size+1) wr);refine jH (P:=?_) (ops:=?_) (Q:=?_) (R:=?_) (tails:=?_) (rest:=.pick [14] (λ_=>.stop)) (aa:=?_)
  (C:=λ(a8 a4 j:Nat) gm=>b1 gm (S.heap.size+1) A n c l/\Fr (λb=>b=S.heap.size+1) wr gm/\an gm a4 106 #[.string ⟨#[]⟩,.bool false]/\bJ<=a4/\j<3) (λkey=>?_) ?_
 rotate_left 6
 ·
  refine pG ?_ ?_ ?_
  ·
   refine dS ?_;refine bh (λV=>Ext wr V/\an V wr.heap.size 5 #[.int .u8 bv]) ⟨(IK.alloc _).drew,IL⟩ (λcg hV=>?_);have aT:=ai (aD.1.cz hV.1 λ_ _ h=>h) (aD.2.trans (hV.1.mono λ_ h=>h.elim));have h7:wr.heap.size<=wr.heap.size:=aD.2.size;have bI:=ae hV.2;clear hV;obtain⟨e0,bn,a0⟩:=bI.two;refine cd (v:=?_) rfl (by rfl) (λV hV=>?_) ?_;rotate_left
   .have bG:=eV V (wr.heap.size) bv ((hV.cell a0 ad).trans (e0 0))
    (go_simp<;>with_reducible rfl)
   try simp only[PU]
   clear e0 bn a0;refine tf ?_;refine a5 ?_ ?_
   ·
    refine aG rfl (λK hK=>?_) rfl;go_simp;refine(aX _ (S.heap.size+1) A n c l 3 (aT.1.cz (M:=λ_=>False) IK (λ_ _ h=>h)) ad ad).mono ?_;rintro e ct ⟨ca,rfl,I,O,h,he⟩;obtain⟨j,rfl⟩:=Ic I;have a1:j<3:=ad;have ag:Fr (λb=>b=S.heap.size+1) cg ct:=he.fr;have bL:=ai h (aT.2.trans ag);have hr:=ae (bI.on ag ad);refine dA hK (he.fr) ?_;clear hK K;clear h he ag I O
    iterate 2 refine tf ?_
    refine aq ?_;refine dS ?_;refine bh (λV=>Ext ct V/\an V ct.heap.size 106 #[.string ⟨#[]⟩,.bool false]) ⟨IK.alloc _,IL⟩ (λiz hV=>?_);have gV:=ai (bL.1.cz hV.1 λ_ _ h=>h) (bL.2.trans (hV.1.mono λ_ h=>h.elim));have h8:wr.heap.size<=ct.heap.size:=bL.2.size;have hw:=ae hV.2;have hZ:=ae (hr.aj hV.1);clear hV;have a9:=And.intro gV.1 (And.intro gV.2 (And.intro hw.o (And.intro (show bJ<=ct.heap.size by omega) a1)));revert a9;generalize wr.heap.size=a8;generalize ct.heap.size=a4;intro a9;exact key a8 a4 j _ a9
   ·
    refine dS ?_;refine bh (λV=>Ext cg V/\an V cg.heap.size 106 #[.string ⟨#[]⟩,.bool false]) ⟨IK.alloc _,IL⟩ (λij hV=>?_);have gW:=ai (aT.1.cz hV.1 λ_ _ h=>h) (aT.2.trans (hV.1.mono λ_ h=>h.elim));have h9:wr.heap.size<=cg.heap.size:=aT.2.size;have hx:=ae hV.2;have hs:=ae (bI.aj hV.1);clear hV;refine aq ?_;refine aG rfl (λK hK=>?_) rfl;go_simp;refine(aX _ (S.heap.size+1) A n c l 3 (gW.1.cz (M:=λ_=>False) IK (λ_ _ h=>h)) ad ad).mono ?_;rintro e ik ⟨ca,rfl,I,O,h,he⟩;obtain⟨j,rfl⟩:=Ic I;have a1:j<3:=ad;have ag:Fr (λb=>b=S.heap.size+1) ij ik:=he.fr;have gZ:=ai h (gW.2.trans ag);have h0:=ae (hs.on ag ad);have hy:=ae (hx.on ag ad);refine dA hK (he.fr) ?_;clear hK K;clear h he ag I O
    iterate 2 refine tf ?_
    have a9:=And.intro gZ.1 (And.intro gZ.2 (And.intro hy.o (And.intro (show bJ<=cg.heap.size by omega) a1)));revert a9;generalize wr.heap.size=a8;generalize cg.heap.size=a4;intro a9;exact key a8 a4 j _ a9
  ·
   refine aG rfl (λK hK=>?_) rfl;go_simp;refine(aX _ (S.heap.size+1) A n c l 3 (aD.1.cz (M:=λ_=>False) (IK.drew) (λ_ _ h=>h)) ad ad).mono ?_;rintro e aM ⟨ca,rfl,I,O,h,he⟩;obtain⟨j,rfl⟩:=Ic I;have a1:j<3:=ad;have ag:Fr (λb=>b=S.heap.size+1) wr aM:=Fr.aJ he.fr;have aw:=ai h (aD.2.trans ag);refine dA hK (he.fr) ?_;clear hK K;clear h he ag I O;refine tf ?_;refine a5 ?_ ?_
   ·
    refine dS ?_;refine bh (λV=>Ext aM V/\an V aM.heap.size 5 #[.int .u8 bv]) ⟨IK.alloc _,IL⟩ (λgO hV=>?_);have bY:=ai (aw.1.cz hV.1 λ_ _ h=>h) (aw.2.trans (hV.1.mono λ_ h=>h.elim));have ia:wr.heap.size<=aM.heap.size:=aw.2.size;have gQ:=ae hV.2;clear hV;obtain⟨e0,bn,a0⟩:=gQ.two;refine cd (v:=?_) rfl (by rfl) (λV hV=>?_) ?_;rotate_left
    .have bG:=eV V (aM.heap.size) bv ((hV.cell a0 ad).trans (e0 0))
     (go_simp<;>with_reducible rfl)
    try simp only[PU]
    clear e0 bn a0
    iterate 2 refine tf ?_
    refine aq ?_;refine dS ?_;refine bh (λV=>Ext gO V/\an V gO.heap.size 106 #[.string ⟨#[]⟩,.bool false]) ⟨IK.alloc _,IL⟩ (λiA hV=>?_);have g0:=ai (bY.1.cz hV.1 λ_ _ h=>h) (bY.2.trans (hV.1.mono λ_ h=>h.elim));have ib:wr.heap.size<=gO.heap.size:=bY.2.size;have hz:=ae hV.2;have h1:=ae (gQ.aj hV.1);clear hV;have a9:=And.intro g0.1 (And.intro g0.2 (And.intro hz.o (And.intro (show bJ<=gO.heap.size by omega) a1)));revert a9;generalize aM.heap.size=a8;generalize gO.heap.size=a4;intro a9;exact key a8 a4 j _ a9
   ·
    refine dS ?_;refine bh (λV=>Ext aM V/\an V aM.heap.size 106 #[.string ⟨#[]⟩,.bool false]) ⟨IK.alloc _,IL⟩ (λgP hV=>?_);have b2:=ai (aw.1.cz hV.1 λ_ _ h=>h) (aw.2.trans (hV.1.mono λ_ h=>h.elim));have ic:wr.heap.size<=aM.heap.size:=aw.2.size;have hA:=ae hV.2;clear hV;refine aq ?_;refine dS ?_;refine bh (λV=>Ext gP V/\an V gP.heap.size 5 #[.int .u8 bv]) ⟨IK.alloc _,IL⟩ (λiB hV=>?_);have g1:=ai (b2.1.cz hV.1 λ_ _ h=>h) (b2.2.trans (hV.1.mono λ_ h=>h.elim));have ie:wr.heap.size<=gP.heap.size:=b2.2.size;have ht:=ae hV.2;have hB:=ae (hA.aj hV.1);clear hV;obtain⟨e0,bn,a0⟩:=ht.two;refine cd (v:=?_) rfl (by rfl) (λV hV=>?_) ?_;rotate_left
    .have bG:=eV V (gP.heap.size) bv ((hV.cell a0 ad).trans (e0 0))
     (go_simp<;>with_reducible rfl)
    try simp only[PU]
    clear e0 bn a0
    iterate 2 refine tf ?_
    have a9:=And.intro g1.1 (And.intro g1.2 (And.intro hB.o (And.intro (show bJ<=aM.heap.size by omega) a1)));revert a9;generalize gP.heap.size=a8;generalize aM.heap.size=a4;intro a9;exact key a8 a4 j _ a9
  ·
   refine dS ?_;refine bh (λV=>Ext wr V/\an V wr.heap.size 106 #[.string ⟨#[]⟩,.bool false]) ⟨(IK.alloc _).drew,IL⟩ (λc0 hV=>?_);have aU:=ai (aD.1.cz hV.1 λ_ _ h=>h) (aD.2.trans (hV.1.mono λ_ h=>h.elim));have ig:wr.heap.size<=wr.heap.size:=aD.2.size;have g5:=ae hV.2;clear hV;refine a5 ?_ ?_
   ·
    refine dS ?_;refine bh (λV=>Ext c0 V/\an V c0.heap.size 5 #[.int .u8 bv]) ⟨IK.alloc _,IL⟩ (λil hV=>?_);have g2:=ai (aU.1.cz hV.1 λ_ _ h=>h) (aU.2.trans (hV.1.mono λ_ h=>h.elim));have ih:wr.heap.size<=c0.heap.size:=aU.2.size;have gR:=ae hV.2;have hC:=ae (g5.aj hV.1);clear hV;obtain⟨e0,bn,a0⟩:=gR.two;refine cd (v:=?_) rfl (by rfl) (λV hV=>?_) ?_;rotate_left
    .have bG:=eV V (c0.heap.size) bv ((hV.cell a0 ad).trans (e0 0))
     (go_simp<;>with_reducible rfl)
    try simp only[PU]
    clear e0 bn a0;refine tf ?_;refine aq ?_;refine aG rfl (λK hK=>?_) rfl;go_simp;refine(aX _ (S.heap.size+1) A n c l 3 (g2.1.cz (M:=λ_=>False) IK (λ_ _ h=>h)) ad ad).mono ?_;rintro e im ⟨ca,rfl,I,O,h,he⟩;obtain⟨j,rfl⟩:=Ic I;have a1:j<3:=ad;have ag:Fr (λb=>b=S.heap.size+1) il im:=he.fr;have g3:=ai h (g2.2.trans ag);have h2:=ae (gR.on ag ad);have hE:=ae (hC.on ag ad);refine dA hK (he.fr) ?_;clear hK K;clear h he ag I O
    iterate 2 refine tf ?_
    have a9:=And.intro g3.1 (And.intro g3.2 (And.intro hE.o (And.intro (show bJ<=wr.heap.size by omega) a1)));revert a9;generalize c0.heap.size=a8;exact vM
   ·
    refine aG rfl (λK hK=>?_) rfl;go_simp;refine(aX _ (S.heap.size+1) A n c l 3 (aU.1.cz (M:=λ_=>False) IK (λ_ _ h=>h)) ad ad).mono ?_;rintro e c1 ⟨ca,rfl,I,O,h,he⟩;obtain⟨j,rfl⟩:=Ic I;have a1:j<3:=ad;have ag:Fr (λb=>b=S.heap.size+1) c0 c1:=he.fr;have b4:=ai h (aU.2.trans ag);have hG:=ae (g5.on ag ad);refine dA hK (he.fr) ?_;clear hK K;clear h he ag I O;refine tf ?_;refine aq ?_;refine dS ?_;refine bh (λV=>Ext c1 V/\an V c1.heap.size 5 #[.int .u8 bv]) ⟨IK.alloc _,IL⟩ (λiC hV=>?_);have g4:=ai (b4.1.cz hV.1 λ_ _ h=>h) (b4.2.trans (hV.1.mono λ_ h=>h.elim));have ii:wr.heap.size<=c1.heap.size:=b4.2.size;have hu:=ae hV.2;have hH:=ae (hG.aj hV.1);clear hV;obtain⟨e0,bn,a0⟩:=hu.two;refine cd (v:=?_) rfl (by rfl) (λV hV=>?_) ?_;rotate_left
    .have bG:=eV V (c1.heap.size) bv ((hV.cell a0 ad).trans (e0 0))
     (go_simp<;>with_reducible rfl)
    try simp only[PU]
    clear e0 bn a0
    iterate 2 refine tf ?_
    have a9:=And.intro g4.1 (And.intro g4.2 (And.intro hH.o (And.intro (show bJ<=wr.heap.size by omega) a1)));revert a9;generalize c1.heap.size=a8;exact vM
 ·
  exact zh
 ):p:=h
end zG
open zG in
theorem GP(S:World)(gN:Value)(Q:Exit->Act->World->Prop)(hQ0:∀c a d v w,Q (.panic c) (a.put d v) w->Q (.panic c) a w)
  (s:∀fZ bE,(∀a ab,Code.wp prog (mZ 32) (Exit.then bE Q) a ab->fZ a ab)->(∀a ab,Code.wp prog (Em 42) Q a ab->bE a ab)->CA S gN (Exit.then bE Q) fZ)
  (K:Act->World->Prop) (hK:∀a ab,Code.wp prog (mZ 19) Q a ab->K a ab):Cz S gN Q K:=by
 unfold Cz;intro io A n c l ar MA mn mc M GA gn gc G av ax hp hq gF gL u8 gG eP go gp ay ce ah u16 br cw eQ eR eS eT eU eW eX eY eZ e3 e4 e5 e6 u32 e7 e8 e9 fa fb fd fe ff fh fi fj fk fl fm fo fp fq fr fs ft fu fv fw fx fy fz fA fB fC fD fE u64 fF fG fH fI fJ fK fL fM fN fQ fR fS fT fU fV fW fX fY f3 f4 f5 f6 f7 f8 f9 ga gb gd ge gf gg gh gi gk gl H am aH aP aQ a7 ba be bf bi bm bu bC bM bO bQ bT bW bX b6 cn co cp cq cu cv cx cy cz cA cB cC cD cE cF cG cH cI cJ cL cM cN cO cP cQ cR cS cU cV cW cX cY cZ c4 c5 c7 c8 c9 da db dc dd de df dg dh di dj dk dl dm dn dp dr ds dt dv dw dx dy dB dC dD dE dF dH dI dJ dK dL dM dN dO dP dQ dR dT dU dV dX dY dZ d0 d1 d2 d3 d4 d5 d6 d7 d8 d9 ea eb ec ed ee ef eg eh ei ej ek el em en eo ep eq er es et eu ev ew ex ey ez eA eC eD eE eF eH eI eL eM eN eO bp gr gs gt gu gv gw gx gy gz gA gB gC gD gE w U;obtain⟨a3,gT⟩:=aN U.GP s;obtain⟨u,g7⟩:∃u,u=w.heap.size:=⟨_,rfl⟩
 rw[<-g7] at a3;clear U s g7;conv=>arg 2;whnf
 conv at hK=>enter [a,w,1,2];whnf
 obtain⟨aI,aj,af⟩:=a3.blk.two;go_wp2_with(fail);refine(aX w (S.heap.size+1) A n c l 4 a3.src ad ad).mono ?_;rintro e aO ⟨cm,rfl,bg,bo,h,he⟩;obtain⟨N,rfl⟩:=Ic bg;have hh:N<4:=ad;have gU:=ae (a3.next h he.fr);clear h he aI aj af a3 bg bo;go_wp2_with(fail);go_loopw [12] (λci wr=>∃(i:Nat) (FA:IP) (fc:Nat) (F:List aE),ci=.int .i64 i/\i<=N+1/\xV S u wr A n c l ar MA mn mc M GA gn gc G av ax FA i fc F) (λci _=>N+1 - (intOf ci).toNat)
 case atStart=>exact⟨0,none,0,[],rfl,ad,gU.o⟩
 case round=>
  obtain⟨i,FA,fc,F,rfl,ak,U⟩:=hrel;obtain⟨T,rfl⟩:∃T,T=wr:=⟨wr,rfl⟩
  clear gU;have b9:=ae U;obtain⟨aI,aj,af⟩:=U.blk.two;have b7:F.length=i:=by have:=U.fs.len;simpa using this
  have hD:=U.hD;clear U;by_cases al:i<=N
  .have bP:(i:Int)<=(N:Int):=ad;have e2:i<=3:=ad;have bG:=λ(W:World) (v:Int)=>kv W v;have hS:∀v,(strOf [byteOf v]).size=1:=λv=>aK _;go_upto_region 24 with(fail);clear hS;generalize hX:World.alloc _ _=g6;have cj:=hJ hX;have g8:an g6 (T.heap.size+1) 104 #[.string (⟨#[102]⟩++strOf [byteOf (48+(i:Int))]),.slice none 0 0,.slice none 0 0]:=by
    rw[<-hX];exact an.fu _ _ _ (by simp)
   have gq:=b9.src.cz cj λ_ _ h=>h;have dz:=aL gq cj g8;clear hX cj g8 gq aI aj af;by_cases gK:i=0
   case' pos=>
    have hg:((i:Int) == 0)=true:=by simp;omega
    obtain⟨f0,c6,e1⟩:=dz.2.2.two;have fO:=ae gK;clear gK;go_upto_region 26 with(fail);generalize hX:World.setCell _ _ _=Y;have aA:=cT hX;have ix:=b9.blk.lt;have hF:b1 Y (S.heap.size+1) A n c l/\Fr (λb=>b=S.heap.size+1) T Y/\an Y (T.heap.size+1) 104 #[.string (iU i),.slice none 0 0,.slice none 0 0]:=by
     refine⟨dz.1.cz aA (λb O h=>ad),(dz.2.1.mono λ_ h=>h.elim).eA (aA.below dz.2.1.size λk ap h=>ad),?_⟩;rw[<-hX,fO.o];exact dz.2.2.aI 0 _
    clear hX aA f0 c6 e1 dz
   case' neg=>
    have hg:((i:Int) == 0)=false:=by simp;omega
    have fO:=ae gK;clear gK;go_upto_region 26 with(fail);have hF:b1 g6 (S.heap.size+1) A n c l/\Fr (λb=>b=S.heap.size+1) T g6/\an g6 (T.heap.size+1) 104 #[.string (iU i),.slice none 0 0,.slice none 0 0]:=⟨dz.1,dz.2.1.mono λ_ h=>h.elim,by have:=dz.2.2;rw[A5 ad fO.o rfl] at this;exact this⟩
    clear dz;revert hF;generalize g6=Y;intro hF
   all_goals
    clear bG;have bV:=ae hF;obtain⟨aI,aj,af⟩:=(b9.next bV.1 bV.2.1).blk.two;clear hF;go_wp2_with(fail);refine(aX Y (S.heap.size+1) A n c l 3 bV.1 ad ad).mono ?_;rintro e hd ⟨bZ,rfl,bg,bo,h,he⟩;obtain⟨hQ,rfl⟩:=Ic bg;have bq:hQ<=2:=ad;have bs:=aL h (bV.2.1.trans he.fr) (bV.2.2.on he.fr (aC b9.blk.lt));clear h he aI aj af bV bg bo;go_wp2_with(fail);go_loopw [14] (λhP bD=>∃(m:Nat) (PA:IP) (pn pc:Nat) (ps:List (ByteArray×Bool)),hP=.int .i64 m/\m<=2/\pn+m<=2/\(i=0->ps=[])/\(i≠0->ps.map (·.1)++eG m=eG hQ)/\b1 bD (S.heap.size+1) A n c l/\Fr (λb=>b=S.heap.size+1) T bD/\an bD (T.heap.size+1) 104 #[.string (iU i),.slice PA pn pc,.slice none 0 0]/\Gr (λ_=>False) (T.heap.size+1+1) 106 2 bD PA pn pc (ps.map ch)) (λhP _=>(intOf hP).toNat)
    case atStart=>exact⟨hQ,none,0,0,[],rfl,bq,ad,λ_=>rfl,λ_=>rfl,bs.1,bs.2.1,bs.2.2,Gr.nil _ _ _ _ _⟩
    case round=>
     obtain⟨m,PA,pn,pc,ps,rfl,az,fP,hk,hl,hF⟩:=hrel;clear bs;have bV:=ae hF;have gH:=ai hk hl;have hN:=b9.next hF.1 hF.2.1;obtain⟨aI,aj,af⟩:=hN.blk.two;obtain⟨f0,c6,e1⟩:=hF.2.2.1.two;have hv:=ae hN;clear hF hk hl hN;by_cases al:0<m/\0<i
     .obtain⟨hj,bS⟩:=al;have q1:decide ((m:Int) > 0)=true:=by simp;omega
      have dq:decide ((i:Int) > 0)=true:=by simp;omega
      have iv:(m:Int)<=2:=ad;have gM:¬S.heap.size+1+1=S.heap.size+1:=ad;have b8:S.heap.size+1+1<wr.heap.size:=hv.blk.lt;clear f0 c6 e1;go_upto_region 29 with(fail);exact yw
     .have du:(¬0<m)\/((0<m)/\¬0<i):=by
       by_cases ac:0<m
       .exact .inr ⟨ac,λh=>al ⟨ac,h⟩⟩
       .exact .inl ac
      have hm:∃bH,bH<=2/\ps.map (·.1)=eG bH:=by
       by_cases ac:i=0
       .exact⟨0,ad,by rw[gH.1 ac];rfl⟩
       .have J:m=0:=by
         by_cases aR:0<m
         .exact absurd ⟨aR,ad⟩ al
         .omega
        have aR:=gH.2 ac;rw[J] at aR;exact⟨hQ,bq,by simpa[eG] using aR⟩
      have h4:=ae hm;clear al hm;rcases du with q1|⟨q1,dq⟩
      ·
       exact DI
      ·
       exact DI
  .have bP:¬(i:Int)<=(N:Int):=ad;go_upto_region 32 with(fail);have bb:=gT.o _ _ (by assumption) (by assumption);unfold CA at bb;exact bb u A n c l ar MA mn mc M GA gn gc G av ax FA i fc F T ad b9.o
theorem pR.k1{G:List (ByteArray×Int)}{M:List bJ}{F:List aE}(aM:qO G)(cg:G.length<=2)(hm:mG M)(ck:1<=M.length/\M.length<=4)(aA:∀i f,F[i]?=some f->f.name=iU i/\(∃n,n<=2/\f.params.map (·.1)=eG n)/\(i=0->f.params=[]))(b7:1<=F.length/\F.length<=4):gf ⟨G,M,F⟩:=
 ⟨cg,ck,b7,aM,hm,aA⟩
theorem BX{F:List aE}{i:Nat}(aA:F[i]?=some f)(b:ak):(F.set i {f with body:=b}).map (λf=>(f.name,f.params))=F.map λf=>(f.name,f.params):=by
 exact D2
theorem xz{F:List aE}{i:Nat}(aA:F[i]?=some f)(b:ak):(F.set i {f with body:=b}).map (·.name)=F.map (·.name):=by
 exact D2
structure ts(G:List (ByteArray×Int))(M:List bJ)(F:List aE)(k L:Nat):Prop where
 k1:∀i f,F[i]?=some f->f.name=iU i/\(∃n,n<=2/\f.params.map (·.1)=eG n)/\(i=0->f.params=[])
 made:∀i f,F[i]?=some f->i<k->eJ (ik ⟨G,M,F⟩ f) 2 (fo ⟨G,M,F⟩++ck f.params) (a4 ⟨G,M,F⟩++f.params.map (·.1)) f.body
 bH:∀i f,F[i]?=some f->k<=i->f.body=.nil
 num:(F.map λf=>f.body.num).sum+2*L<=48
theorem pR.start{G:List (ByteArray×Int)}{M:List bJ}{F:List aE}(h:pR F):ts G M F 0 24:=by
 refine⟨λi f aA=>⟨(h i f aA).1,(h i f aA).2.1,(h i f aA).2.2.1⟩,λi f _ ak=>ad,λi f aA _=>(h i f aA).2.2.2,?_⟩;have h0:(F.map λf=>f.body.num).sum=0:=by
  have ac:F.map (λf=>f.body.num)=F.map λ_=>0:=List.map_congr_left λf aA=>by
   obtain⟨i,ak⟩:=List.getElem?_of_mem aA;rw[(h i f ak).2.2.2];rfl
  rw[ac];clear ac h
  induction F with
  | nil=>rfl
  | cons f F aa=>simpa using aa
 omega
theorem Du{F:List aE}:∀{i:Nat} {f:aE},F[i]?=some f->f.body=.nil->((F.set i {f with body:=b}).map λf=>f.body.num).sum=(F.map λf=>f.body.num).sum+b.num:=by
 induction F with
 | nil=>intro i f aA;simp at aA
 | cons g F aa=>
  intro i f aA hn
  cases i with
  | zero=>
   simp at aA;subst aA;simp[hn,ak.num]
   omega
  | succ i=>
   simp at aA;have:=aa (i:=i) aA hn;simp only[List.set_cons_succ,Ie,List.sum_cons,this];omega
theorem ts.next{G:List (ByteArray×Int)}{M:List bJ}{F:List aE}{k L R:Nat}(h:ts G M F k L)(aA:F[k]?=some f){ls:List ay}(hm:Made (ik ⟨G,M,F⟩ f) 2 (fo ⟨G,M,F⟩++ck f.params) (a4 ⟨G,M,F⟩++f.params.map (·.1)) L R ls):
  ts G M (F.set k {f with body:=.ez ls}) (k+1) R:=by
 have hs:=BX aA (.ez ls);have hn:=xz aA (.ez ls);have al:=(List.getElem?_eq_some_iff.1 aA).1;have bS:∀g,ik ⟨G,M,F.set k {f with body:=.ez ls}⟩ g=ik ⟨G,M,F⟩ g:=λg=>by simp only[ik,sigs,hs]
 have a5:a4 ⟨G,M,F.set k {f with body:=.ez ls}⟩=a4 ⟨G,M,F⟩:=by simp only[a4,fo,hn]
 have E:∀i g,(F.set k {f with body:=.ez ls})[i]?=some g->(i=k/\g={f with body:=.ez ls})\/(i≠k/\F[i]?=some g):=λi g aM=>by
  by_cases ak:k=i
  .subst ak;rw[List.getElem?_set_self al] at aM;injection aM with aM;exact .inl ⟨rfl,aM.symm⟩
  .rw[List.getElem?_set_ne ak] at aM;exact .inr ⟨λh=>ak h.symm,aM⟩
 refine⟨λi g aM=>?_,λi g aM ak=>?_,λi g aM ak=>?_,?_⟩
 .rcases E i g aM with⟨rfl,rfl⟩|⟨_,J⟩
  .exact h.k1 _ f aA
  .exact h.k1 _ _ J
 .rw[bS,a5];rcases E i g aM with⟨rfl,rfl⟩|⟨ac,J⟩
  .exact hm.wf
  .exact h.made i g J ad
 .rcases E i g aM with⟨rfl,rfl⟩|⟨ac,J⟩
  .omega
  .exact h.bH i g J ad
 .rw[Du aA (h.bH k f aA (Hx _))];have ac:=hm.num;have J:=hm.le;have aR:=h.num;omega
theorem ts.wf{G:List (ByteArray×Int)}{M:List bJ}{F:List aE}{L:Nat}(h:ts G M F F.length L)(aM:qO G)(cg:G.length<=2)(hm:mG M)(ck:1<=M.length/\M.length<=4)(b7:1<=F.length/\F.length<=4):pH ⟨G,M,F⟩:=by
 refine(pR.k1 aM cg hm ck h.k1 b7).wf (λf aA=>?_) (by have:=h.num;simp only;omega);obtain⟨i,ak⟩:=List.getElem?_of_mem aA;have al:=(List.getElem?_eq_some_iff.1 ak).1;exact cV _ 2 4 _ _ _ _ (λ_ h=>h) (λ_ _ h=>h) ad (h.made i f ak al)
theorem lx{w:World}{cs:List Value}:(c8 f).rep w P cs↔∃(A:IP) (n c:Nat) (A2:IP) (cd c2:Nat),cs=[.string f.name,.slice A n c,.slice A2 cd c2]/\n<=c/\Sl w P A n (f.params.map ch)/\cd<=c2/\Sl w P A2 cd (cL f.body):=by
 unfold c8;rw[bw,b9];constructor
 .rintro⟨y,rfl,h⟩;obtain⟨A,n,c,bp,rfl,hc,hs,h⟩:=aA.1 h;obtain⟨A2,cd,c2,aJ,rfl,cf,bz,h⟩:=aA.1 h;rw[aM] at h;subst h;exact⟨A,n,c,A2,cd,c2,rfl,hc,hs,cf,bz⟩
 .rintro⟨A,n,c,A2,cd,c2,rfl,hc,hs,cf,bz⟩;exact⟨_,rfl,aA.2 ⟨A,n,c,_,rfl,hc,hs,aA.2 ⟨A2,cd,c2,[],rfl,cf,bz,aM.2 rfl⟩⟩⟩
theorem qf(f:aE):(c8 f).sz=3:=rfl
theorem qB{w:World}{P:Nat->Prop}{b:ak}{bw:IP}{on bL:Nat}(hc:on<=bL)(bd:Sl w P bw on (cL b)):∀(F:List aE) (i:Nat) (xs:List Value) (f:aE),D.aO w P (F.map c8) xs->F[i]?=some f->D.aO w P ((F.set i {f with body:=b}).map c8) (xs.set (i*3+2) (.slice bw on bL))
 | [],i,xs,f,h,aA=>by simp at aA
 | x::F,0,xs,f,h,aA=>by
  simp only[List.getElem?_cons_zero,IE] at aA;subst aA;rw[Ie] at h;obtain⟨j,d,rfl,hx,a4⟩:=gy.1 h;obtain⟨A,n,c,A2,cd,c2,rfl,ac,J,_,_⟩:=lx.1 hx;rw[List.set_cons_zero,Ie]
  exact gy.2 ⟨[.string x.name,.slice A n c,.slice bw on bL],d,rfl,lx.2 ⟨A,n,c,bw,on,bL,rfl,ac,J,hc,bd⟩,a4⟩
 | x::F,i+1,xs,f,h,aA=>by
  rw[List.getElem?_cons_succ] at aA;rw[Ie] at h;obtain⟨j,d,rfl,hx,a4⟩:=gy.1 h;have hl:=(D.kR _ _ hx).trans (qf x);have aa:=qB hc bd F i d f a4 aA;rw[List.set_cons_succ,Ie,List.set_append_right _ _ ad,hl,show (i+1)*3+2 - 3=i*3+2 by omega];exact gy.2 ⟨_,_,rfl,hx,aa⟩
theorem Gr.GU{w:World}{n c i:Nat}{F:List aE}{bw:IP}{on bL:Nat}(h:Gr P B e 3 w (some ⟨g,0,none⟩) n c (F.map c8))(aA:F[i]?=some f)(hc:on<=bL)(bd:Sl w (kJ P w (.slice (some ⟨g,0,none⟩) n c)) bw on (cL b)):
  Gr P B e 3 (w.setCell ⟨g,i*3+2,none⟩ (.slice bw on bL)) (some ⟨g,0,none⟩) n c ((F.set i {f with body:=b}).map c8):=by
 obtain⟨hl,xs,ac,J⟩:=h;have a1:Fr (λb=>b=g) w (w.setCell ⟨g,i*3+2,none⟩ (.slice bw on bL)):=(Fr.refl (λb=>b=g) w).setCell (.inl rfl) _;have hs:=a1.size;have U:=(List.getElem?_eq_some_iff.1 aA).1;refine⟨by simpa using hl,xs.set (i*3+2) (.slice bw on bL),⟨by rw[List.length_set];exact ac.1,?_⟩,?_⟩
 .rcases ac.2 with⟨bC,_⟩|⟨al,cap,cur,bC,O,aM,hn,bi,bT,ht⟩
  .cases bC
  .injection bC with I _ Z;injection I with I;injection I with I;subst I;refine .inr ⟨g,cap,cur.setIfInBounds (i*3+2) (.slice bw on bL),by rw[Z],O,an.aI (show an w g e cur from aM) (i*3+2) _,hn,bi,by simpa using bT,?_⟩;rw[Array.toList_setIfInBounds,List.take_set,ht]
 .refine D.bL (λb O=>⟨O.1,Hy O.2.1 hs,O.2.2⟩) _ _ (D.bV (λb O=>a1.block b O.2.1 λj=>O.2.2 ?_) _ _ (qB hc bd F i xs f J aA));subst j;rfl
theorem Gr.GF{w:World}{n c:Nat}{A:IP}{l:List D}(h:Gr P B e z w A n c l)(hn:0<n):∃g,A=some ⟨g,0,none⟩/\B<=g/\g<w.heap.size:=by
 obtain⟨_,xs,ac,_⟩:=h;rcases ac.2 with⟨_,h0⟩|⟨g,cap,cur,bC,O,aM,_⟩
 .omega
 .injection bC with bC _ _;exact⟨g,bC,O,(Array.getElem?_eq_some_iff.1 aM).1⟩
structure nT(S:World)(u:Nat)(A:IP)(n c:Nat)(l:List Int)(ar:Bool)(MA:IP)(mn mc:Nat)(M:List bJ)(GA:IP)(gn gc:Nat)(G:List (ByteArray×Int))(av:IP)(ax:Nat)(fg fn fc:Nat)(w:World)(F:List aE)(i L:Nat):Prop where
 src:b1 w (S.heap.size+1) A n c l
 blk:an w (S.heap.size+1+1) 93 #[.pointer (some ⟨S.heap.size+1,0,none⟩),.slice GA gn gc,.slice MA mn mc,.slice (some ⟨fg,0,none⟩) fn fc,.int .i64 L,.bool ar]
 res:an w S.heap.size 27 #[.slice none 0 0,.slice none 0 0,.slice none 0 0]
 ms:Sl w (λb=>S.heap.size+1+1+1<=b/\b<u) MA mn (M.map er)
 gs:Sl w (λb=>S.heap.size+1+1+1<=b/\b<u) GA gn (G.map hR)
 vs:Sl w (λb=>S.heap.size+1+1+1<=b/\b<u) av gn ((G.map (·.1)).map D.s)
 fs:Gr (λb=>u<=b) u 104 3 w (some ⟨fg,0,none⟩) fn fc (F.map c8)
 mc:mn<=mc
 gc:gn<=gc
 nm:1<=mn/\mn<=4
 ok:mG M
 ng:gn<=2
 xQ:qO G
 nf:1<=fn/\fn<=4
 bd:ts G M F i L
 ke:L<=24
 ext:Ext S w
 hD:S.heap.size+1+1+1<=u/\u<=w.heap.size
section
variable {S w ab:World} {u:Nat} {A:IP} {n c:Nat} {l:List Int} {ar:Bool} {MA:IP} {mn mc:Nat} {M:List bJ} {GA:IP} {gn gc:Nat} {G:List (ByteArray×Int)} {av:IP} {ax:Nat} {FA:IP} {fg fn fc:Nat} {F:List aE} {i L R:Nat}
theorem xV.GQ(h:xV S u w A n c l ar MA mn mc M GA gn gc G av ax FA fn fc F)(hn:1<=fn):∃fg,FA=some ⟨fg,0,none⟩/\nT S u A n c l ar MA mn mc M GA gn gc G av ax fg fn fc w F 0 24:=by
 obtain⟨fg,rfl,_⟩:=h.fs.GF ad;exact⟨fg,rfl,h.src,h.blk,h.res,h.ms,h.gs,h.vs,h.fs,h.mc,h.gc,h.nm,h.ok,h.ng,h.xQ,⟨hn,h.nf⟩,h.GI.start,Hx _,h.ext,h.hD⟩
theorem nT.len(h:nT S u A n c l ar MA mn mc M GA gn gc G av ax fg fn fc w F i L):F.length=fn/\M.length=mn/\G.length=gn:=⟨by have:=h.fs.len;simpa using this,by have:=h.ms.1;simpa using this,by have:=h.gs.1;simpa using this⟩
theorem nT.own(h:nT S u A n c l ar MA mn mc M GA gn gc G av ax fg fn fc w F i L):u<=fg/\fg<w.heap.size:=h.fs.lt rfl
theorem nT.hW(h:nT S u A n c l ar MA mn mc M GA gn gc G av ax fg fn fc w F i L):∀f∈F,f.params.length<=2:=λf aA=>by
 obtain⟨i,ak⟩:=List.getElem?_of_mem aA;obtain⟨n,hn,hp⟩:=(h.bd.k1 i f ak).2.1;have:=congrArg List.length hp;rw[Ib,lG] at this;omega
theorem nT.aj(h:nT S u A n c l ar MA mn mc M GA gn gc G av ax fg fn fc w F i L)(O:Ext w ab):nT S u A n c l ar MA mn mc M GA gn gc G av ax fg fn fc ab F i L:=by
 have hD:=h.hD;have ap:∀b,(S.heap.size+1+1+1<=b/\b<u)->ab.heap[b]?=w.heap[b]?:=λb hp=>O.block b (aC hp.2) (λh=>h);exact⟨h.src.cz O λ_ _ h=>h,h.blk.aj O,h.res.aj O,h.ms.al ap,h.gs.al ap,h.vs.al ap,h.fs.aj O,h.mc,h.gc,h.nm,h.ok,h.ng,h.xQ,h.nf,h.bd,h.ke,h.ext.trans O,hD.1,by have:=O.size;omega⟩
theorem nT.wr(h:nT S u A n c l ar MA mn mc M GA gn gc G av ax fg fn fc w F i L):fZ w ⟨S.heap.size+1,S.heap.size+1+1,A,n,c,l,GA,gn,gc,MA,mn,mc,some ⟨fg,0,none⟩,fn,fc,M,F,ar⟩ L:=by
 have hD:=h.hD;exact⟨h.src,h.blk,Nat.lt_succ_self _,h.ms.mono λb O=>⟨ad,λhm=>by rcases hm with hm|hm<;>(simp only at hm;omega)⟩,h.fs.sl (λb O hp=>⟨O,λhm=>by rcases hm with hm|hm<;>(simp only at hm;omega)⟩) (λb O hp=>⟨O,λhm=>by rcases hm with hm|hm<;>(simp only at hm;omega)⟩),h.nm,h.nf,
  λm hm=>by obtain⟨k,ap⟩:=List.getElem?_of_mem hm;exact⟨(h.ok k m ap).2.1,(h.ok k m ap).2.2.1⟩,h.hW,h.ke⟩
theorem nT.k1(h:nT S u A n c l ar MA mn mc M GA gn gc G av ax fg fn fc w F i L):gf ⟨G,M,F⟩:=pR.k1 h.xQ (mI h.len.2.2 h.ng) h.ok (mI h.len.2.1 h.nm) h.bd.k1 (mI h.len.1 h.nf)
theorem nT.body(h:nT S u A n c l ar MA mn mc M GA gn gc G av ax fg fn fc w F i L){f:aE}(aA:F[i]?=some f){ls:List ay}{bw:IP}{on bL:Nat}
  (hw:fZ ab ⟨S.heap.size+1,S.heap.size+1+1,A,n,c,l,GA,gn,gc,MA,mn,mc,some ⟨fg,0,none⟩,fn,fc,M,F,ar⟩ R) (O:Fr (λb=>b=S.heap.size+1\/b=S.heap.size+1+1) w ab)
  (hm:Made (ik ⟨G,M,F⟩ f) 2 (fo ⟨G,M,F⟩++ck f.params) (a4 ⟨G,M,F⟩++f.params.map (·.1)) L R ls) (hc:on<=bL) (hs:Sl ab (fresh w ab) bw on (ls.map a3)) :
  nT S u A n c l ar MA mn mc M GA gn gc G av ax fg fn fc (ab.setCell ⟨fg,i*3+2,none⟩ (.slice bw on bL)) (F.set i {f with body:=.ez ls}) (i+1) R:=by
 have hD:=h.hD;have bu:=h.own;have bT:=O.size;have az:Fr (λb=>b=fg) ab (ab.setCell ⟨fg,i*3+2,none⟩ (.slice bw on bL)):=(Fr.refl (λb=>b=fg) ab).setCell (.inl rfl) _;have bF:=az.size;have ap:∀b,(S.heap.size+1+1+1<=b/\b<u)->(ab.setCell ⟨fg,i*3+2,none⟩ (.slice bw on bL)).heap[b]?=w.heap[b]?:=λb hp=>(az.block b (aC hp.2) (aC hp.2)).trans (O.block b (aC hp.2) λaG=>by have:=hp.1;rcases aG with aG|aG<;>omega);have aM:Gr (λb=>u<=b) u 104 3 ab (some ⟨fg,0,none⟩) fn fc (F.map c8):=h.fs.dh O λb hm _=>by rcases hm with hm|hm<;>exact⟨ad,ad⟩
 have ag:Ext S ab:=Fr.low (M:=λb=>b=S.heap.size+1\/b=S.heap.size+1+1) ((h.ext.mono λ_ h=>h.elim).trans O) λk ap=>by rcases ap with ap|ap<;>omega
 refine⟨hw.src.cz az λb al aG=>by simp only at al;omega,hw.blk.on az (by show ¬S.heap.size+1+1=fg;omega),(h.res.on O ad).on az ad,h.ms.al ap,h.gs.al ap,h.vs.al ap,?_,h.mc,h.gc,h.nm,h.ok,h.ng,h.xQ,h.nf,h.bd.next aA hm,hw.ke,
  Fr.low (M:=λb=>b=fg) ((ag.mono λ_ h=>h.elim).trans az) λk ap=>by have:=h.ext.size;omega,hD.1,ad⟩
 refine aM.GU aA hc ?_;rw[l2];exact hs.mono λb O=>⟨by have:=O.1;omega,O.2,λh=>by injection h with h;have:=O.1;simp only at h;omega⟩
theorem nT.done(h:nT S u A n c l ar MA mn mc M GA gn gc G av ax fg fn fc w F fn L):pH ⟨G,M,F⟩:=by
 have hl:=h.len;have O:=h.bd;rw[<-hl.1] at O;exact O.wf h.xQ (aC h.ng) h.ok (aC h.nm) (aC h.nf)
end
structure RW(s:Nat)(v0 v1 v2 ao aX:Value)(w ab:World):Prop where
 fr:Fr (λb=>b=s\/b=s+1) w ab
 wb:∀L:Int,an w (s+1) 93 #[v0,v1,v2,ao,.int .i64 L,aX]->∃R:Int,an ab (s+1) 93 #[v0,v1,v2,ao,.int .i64 R,aX]
theorem RW.refl{s:Nat}{v0 v1 v2 ao aX:Value}(w:World):RW s v0 v1 v2 ao aX w w:=⟨IK,λL h=>⟨L,h⟩⟩
theorem RW.trans{s:Nat}{v0 v1 v2 ao aX:Value}{w ab aT:World}(h:RW s v0 v1 v2 ao aX w ab)(k:RW s v0 v1 v2 ao aX ab aT):RW s v0 v1 v2 ao aX w aT:=⟨h.fr.trans k.fr,λL O=>by
 obtain⟨aY,ac⟩:=h.wb L O;exact k.wb aY ac⟩
theorem Cn(p:jW)(L:Nat)(V T:IQ)(P:IP)(bH a2:Nat)(bc:ByteArray)(ps:List (ByteArray×Bool))(QA:IP)(cc qc:Nat)(bR:Value)(w:World)(hw:fZ w p L)(hN:Sl w (off p.MW w) P bH (V.map D.s))(hV:V.length+L<=60)(aA:lQ T L)
  (cq:Sl w (off p.MW w) QA cc (ps.map ch)) (bp:cc<=2):Calls prog 31 #[.pointer (some ⟨p.wb,0,none⟩),.agg #[.string bc,.slice QA cc qc,bR],.slice P bH a2,.int .i64 2,.int .i64 6] w (DE p 2 V T ps L w):=
 vq p L 2 6 V T P bH a2 bc ps QA cc qc bR w ad ad hw hN hV aA cq bp
structure Cv(fg i:Nat)(f:aE)(QA:IP)(cc qc:Nat)(aW:IP)(bn bc:Nat)(w:World):Prop where
 c0:w.cell? ⟨fg,i*3,none⟩=some (.string f.name)
 c1:w.cell? ⟨fg,i*3+1,none⟩=some (.slice QA cc qc)
 c2:w.cell? ⟨fg,i*3+2,none⟩=some (.slice aW bn bc)
theorem Cv.al{fg i:Nat}{QA:IP}{cc qc:Nat}{aW:IP}{bn bc:Nat}{w ab:World}(h:Cv fg i f QA cc qc aW bn bc w)(ap:ab.heap[fg]?=w.heap[fg]?):Cv fg i f QA cc qc aW bn bc ab:=
 ⟨(World.cell?_of_block (w:=w) ap).trans h.c0,(World.cell?_of_block (w:=w) ap).trans h.c1,(World.cell?_of_block (w:=w) ap).trans h.c2⟩
theorem nT.FW{S w:World}{u:Nat}{A:IP}{n c:Nat}{l:List Int}{ar:Bool}{MA:IP}{mn mc:Nat}{M:List bJ}{GA:IP}{gn gc:Nat}{G:List (ByteArray×Int)}{av:IP}{ax:Nat}{fg fn fc:Nat}{F:List aE}{i L:Nat}
  (h:nT S u A n c l ar MA mn mc M GA gn gc G av ax fg fn fc w F i L) (ak:i<fn):∃(f:aE) (QA:IP) (cc qc:Nat) (aW:IP) (bn bc:Nat),F[i]?=some f/\cc<=2/\cc<=qc/\Sl w (λb=>u<=b/\b<w.heap.size) QA cc (f.params.map ch)/\Cv fg i f QA cc qc aW bn bc w:=by
 obtain⟨b3,cU,f,cs,I,cw,r,bt,bd,hc⟩:=Sl.gH (z:=3) (h.fs.sl (Q:=λb=>u<=b/\b<w.heap.size) (λb al h=>⟨h,al⟩) (λb al h=>⟨h,al⟩)) (λ_=>qf _) ak;obtain⟨QA,cc,qc,aW,bn,bc,rfl,gM,cd,_,_⟩:=lx.1 bt;injection I with I;injection I with ac J aR;subst ac;subst J;have bp:cc<=2:=by
  have bv:=h.hW f (Ia r);have ct:=cd.1;rw[Ib] at ct;omega
 have c0:=hc 0 _ rfl;have c1:=hc 1 _ rfl;have c2:=hc 2 _ rfl;simp only[It,Ij] at c0 c1 c2;exact⟨f,QA,cc,qc,aW,bn,bc,r,bp,gM,cd,c0,c1,c2⟩
theorem Gr.GD{w:World}{n c:Nat}{l:List D}(h:Gr P B e z w (some ⟨g,0,none⟩) n c l):∃cur,an w g e cur:=by
 obtain⟨_,xs,ac,_⟩:=h;rcases ac.2 with⟨bC,_⟩|⟨al,cap,cur,bC,O,aM,_⟩
 .cases bC
 .injection bC with bC _ _;injection bC with bC;injection bC with bC;subst bC;exact⟨cur,aM⟩
theorem p1{ps:List (ByteArray×Bool)}{j:Nat}{q:ByteArray×Bool}(h:ps[j]?=some q):ck (ps.take (j+1))=ck (ps.take j)++(if q.2 then [] else [q.1]):=by
 unfold ck;rw[List.take_add_one,h];obtain⟨x,b⟩:=q;cases b<;>simp
theorem rj(ps:List (ByteArray×Bool)):(ck ps).length<=ps.length:=by
 unfold ck;rw[Ib];exact List.length_filter_le _ _
theorem nT.GR{S w ab:World}{u:Nat}{A:IP}{n c:Nat}{l:List Int}{ar:Bool}{MA:IP}{mn mc:Nat}{M:List bJ}{GA:IP}{gn gc:Nat}{G:List (ByteArray×Int)}{av:IP}{ax:Nat}{fg fn fc:Nat}{F:List aE}{L:Nat}
  (h:nT S u A n c l ar MA mn mc M GA gn gc G av ax fg fn fc w F fn L) (O:Fr (λb=>b=S.heap.size) w ab):jO S (.returned (.agg #[.slice GA gn gc,.slice MA mn mc,.slice (some ⟨fg,0,none⟩) fn fc])) ab:=by
 have hD:=h.hD;have hs:=O.size;have ap:∀b,(S.heap.size+1+1+1<=b/\b<u)->ab.heap[b]?=w.heap[b]?:=λb hp=>O.block b (aC hp.2) (aC hp.1);have bZ:Gr (λb=>u<=b) u 104 3 ab (some ⟨fg,0,none⟩) fn fc (F.map c8):=h.fs.dh O λb hm _=>⟨ad,ad⟩
 exact⟨⟨G,M,F⟩,GA,gn,gc,MA,mn,mc,_,fn,fc,rfl,h.done,h.gc,h.mc,h.fs.cap.1,(h.gs.al ap).mono λb hp=>⟨by have:=hp.1;omega,by have:=hp.2;omega⟩,(h.ms.al ap).mono λb hp=>⟨by have:=hp.1;omega,by have:=hp.2;omega⟩,
  bZ.sl (λb al hp=>⟨ad,al⟩) (λb al hp=>⟨ad,al⟩),Fr.low (M:=λb=>b=S.heap.size) ((h.ext.mono λ_ h=>h.elim).trans O) λk ap=>ad⟩
namespace zH
theorem fP(h:p:=by
 try simp only[It]
 generalize hX:World.setCell _ _ _=X;have aV:=ae (hX▸bs.o);clear hX bs e0 e1 e2 bo gq W R;go_wp2_with(fail);go_roundw
 case rel=>exact⟨i+1,a0,F.set i {f with body:=.ez ls},by go_num,ad,aV.o⟩
 case measure=>exact aF
 ):p:=h
end zH
open zH in
theorem GQ(S:World)(gN:Value)(fZ bE:Act->World->Prop)(ac:∀a ab,Code.wp prog (mZ 32) (Exit.then bE (bodyPost prog Tryz.f16 (jO S))) a ab->fZ a ab)(J:∀a ab,Code.wp prog (Em 42) (bodyPost prog Tryz.f16 (jO S)) a ab->bE a ab) :
  CA S gN (Exit.then bE (bodyPost prog Tryz.f16 (jO S))) fZ:=by
 unfold CA;intro u A n c l ar MA mn mc M GA gn gc G av ax FA fn fc F hp hq gF gL u8 gG eP go gp ay ce ah u16 br cw eQ eR eS eT eU eW eX eY eZ e3 e4 e5 e6 u32 e7 e8 e9 fa fb fd fe ff fh fi fj fk fl fm fo fp fq fr fs ft fu fv fw fx fy fz fA fB fC fD fE u64 fF fG fH fI fJ fK fL fM fN fQ fR fS fT fU fV fW fX fY f3 f4 f5 f6 f7 f8 f9 ga gb gd ge gf gg gh gi gk gl H am aH aP aQ a7 ba be bf bi bm bu bC bM bO bQ bT bW bX b6 cn co cp cq cu cv cx cy cz cA cB cC cD cE cF cG cH cI cJ cL cM cN cO cP cQ cR cS cU cV cW cX cY cZ c4 c5 c7 c8 c9 da db dc dd de df dg dh di dj dk dl dm dn dp dr ds dt dv dw dx dy dB dC dD dE dF dH dI dJ dK dL dM dN dO dP dQ dR dT dU dV dX dY dZ d0 d1 d2 d3 d4 d5 d6 d7 d8 d9 ea eb ec ed ee ef eg eh ei ej ek el em en eo ep eq er es et eu ev ew ex ey ez eA eC eD eE eF eH eI eL eM eN eO bp gr gs gt gu gv gw gx gy gz gA gB gC gD gE w gj U;obtain⟨fg,rfl,bl⟩:=U.GQ gj;have a3:=ae bl;clear U bl;conv=>arg 2;whnf
 conv at ac=>enter [a,w,1,2];whnf
 conv at J=>enter [a,w,1,2];whnf
 go_wp2_with(fail);go_loopw [16] (λci wr=>∃(i L:Nat) (F:List aE),ci=.int .i64 i/\i<=fn/\nT S u A n c l ar MA mn mc M GA gn gc G av ax fg fn fc wr F i L) (λci _=>fn - (intOf ci).toNat)
 case atStart=>exact⟨0,24,F,rfl,ad,a3.o⟩
 case round=>
  obtain⟨i,L,F,rfl,ak,U⟩:=hrel;obtain⟨T,rfl⟩:∃T,T=wr:=⟨wr,rfl⟩
  clear a3;have b9:=ae U;obtain⟨aI,aj,af⟩:=U.blk.two;have b3:=U.hD;have aO:=U.own;clear U;by_cases al:i<fn
  .have bP:(i:Int)<(fn:Int):=ad;have gK:(0:Int)<=(i:Int):=ad;obtain⟨f,QA,cc,qc,aW,bn,bc,aA,bR,gM,cd,E⟩:=b9.FW al;have bG:=aL aA cd E;have y:f.params.length=cc:=by have:=cd.1;simpa using this
   clear aA cd E;have an:=ae b9.len.2.2;have bg:Gr (λ_=>False) T.heap.size 9 1 (T.alloc (.cells #[] 9)) (some ⟨T.heap.size,0,none⟩) 0 0 []:=Gr.lit (w:=T) (n:=0) (l:=[]) rfl (by rfl) ad (by simp only[D.aO]);have m:Ext T (T.alloc (.cells #[] 9)):=IK.alloc _;have ao:Src (T.alloc (.cells #[] 9)) 1 av gn ((G.map (·.1)).map Value.string):=ta (b9.aj m).vs;have g:av=none->gn=0:=λh=>by subst h;exact Sl.none_ b9.vs
   have cb:T.heap.size<=(T.alloc (.cells #[] 9)).heap.size:=by simp
   have bV:=b9.ng;have bU:=b9.nf.2;go_upto_region 36 with(at_builtin;go_loud (refine pJ j2 rfl (.tmp 194) (.tmp 195) rfl bg (m5 (G.map (·.1))) (by rw[Ib,Ib];exact an.o) ao g rfl rfl ad ad cb ?_);intro cl c3 b4 f1 aq bA o;have b1:=ai f1 aq;clear f1 aq bA o);have aG:Ext T b4:=m.eA (b1.2.below (by simp) λk ap h=>by
    simp[Value.ownBlock] at h;omega)
   have f1:=b1.1;simp only[It,IC] at f1;have bI:=ai aG f1;clear aG f1 b1 bg m ao g cb aI aj af
   try simp only[It]
   go_wp2_with(fail);go_loopw [17,18] (λaR a6 wr=>∃(j:Nat) (bw:IP) (on bL:Nat),aR=.slice bw on bL/\a6=.int .i64 j/\j<=cc/\Ext T wr/\Gr (λ_=>False) T.heap.size 9 1 wr bw on bL ((G.map (·.1)++ck (f.params.take j)).map D.s)) (λ_ a6 _=>cc - (intOf a6).toNat)
   case atStart=>exact⟨0,cl,gn,c3,rfl,rfl,ad,bI.1,by simpa[ck] using bI.2⟩
   case round=>
    obtain⟨j,bw,on,bL,rfl,rfl,a1,aw,bS⟩:=hrel;clear bI;have P:on=(G.map (·.1)).length+(ck (f.params.take j)).length:=by have:=bS.len;simpa using this.symm
    have c2:on<=4:=by
     have ct:=rj (f.params.take j);have Q:=an.o;rw[List.length_take] at ct;rw[Ib] at P;omega
    have a8:=bF (b9.aj aw) aw bS (bG.2.2.al (aw.block fg aO.2 (λh=>h)));obtain⟨a2,bJ⟩:=aN y P;have ag:=aw.size;clear aw bS y P;obtain⟨aI,aj,af⟩:=a8.1.blk.two;obtain⟨e0,e1,e2⟩:=a8.2.2.2;by_cases du:j<cc
    .have f0:(j:Int)<(cc:Int):=ad;have eG:(0:Int)<=(j:Int):=ad;obtain⟨pb,gO,q,cs,bv,eJ,hm,aY,bd,hc⟩:=Sl.gH (z:=2) (bG.2.1.al λb O=>a8.2.1.block b O.2 (λh=>h)) (λ_=>rfl) du;obtain rfl:=rE.1 aY;subst bv;have c0:=hc 0 _ rfl;have c1:=hc 1 _ rfl;simp only[Ij] at c0 c1;have eV:=ae hm;clear aY hc bd hm eJ;obtain⟨q1,dq⟩:=q;simp only at c0 c1;have aX:=p1 eV.o
     cases dq with
     | true=>
      go_wp2_with(fail);go_roundw
      case rel=>exact⟨j+1,bw,on,bL,rfl,by go_num,ad,a8.2.1,by rw[aX];simpa using a8.2.2.1⟩
      case measure=>exact aF
     | false=>
      have hd:(D.s q1).rep wr (kJ (λ_=>False) wr (.slice bw on bL)) [.string q1]:=by simp only[D.rep]
      have eK:=ae hd;clear hd;go_wp2_with(at_builtin;refine bN j2 rfl (.tmp 225) (.tmp 239) rfl a8.2.2.1 eK.o rfl rfl rfl ad ad ag ?_;intro aZ gJ b4 bb az b5 cf;have b2:=ai bb az;clear bb az b5 cf);have bq:∀b,(Value.slice bw on bL).ownBlock=some b->T.heap.size<=b:=λb O=>(a8.2.2.1.lt O).1;have aJ:Ext T b4:=a8.2.1.eA (b2.2.below ag λk ap h=>by have:=bq k h;omega);have bH:=ae aJ;clear bq aJ;go_roundw
      case rel=>exact⟨j+1,aZ,on+1,gJ,rfl,by go_num,ad,bH.o,by rw[aX];simpa[Ig,<-List.append_assoc] using b2.1⟩
      case measure=>exact aF
    .obtain rfl:j=cc:=ad;have c6:f.params.take j=f.params:=Ih (aC a2.o);have s:=a8.1.aj IK.drew;have W:=a8.2.2.2.al (ab:=wr.drew) rfl;have Z:=a8.2.2.1.aj IK.drew;rw[c6] at Z;have R:=s.blk;have bh:=s.own;have b0:(G.map (·.1)++ck f.params).length+L<=60:=by
      have ct:=bJ.o;rw[c6] at ct;have Q:=s.ke;rw[Hz];omega
     have I:=s.k1.free (f:=f) (Ia bG.1);have a5:=s.ke;have eK:=bF s Z b0 I;clear s Z b0 I c6;go_upto_region 41 with(fail);clear e0 e1 e2 aI aj af;refine ks (RW (S.heap.size+1) (.pointer (some ⟨S.heap.size+1,0,none⟩)) (.slice GA gn gc) (.slice MA mn mc) (.slice (some ⟨fg,0,none⟩) fn fc) (.bool ar)) [(0,3),(1,3),(2,3),(3,3),(4,0),(5,3),(6,3),(7,3),(8,3),(9,3),(10,3),(11,0),(12,3),(13,3),(14,0),(15,3),(16,1),(17,3),(18,3),(19,2)] (by kernel_rfl) (by kernel_rfl) (λw=>RW.refl w) (λ_ _ _ h k=>h.trans k) (λ_ _ d _ _ h=>by cases d<;>exact h) ?_
     iterate 4 refine pf ?_
     refine bB (v:=?_) rfl (by rfl) (λV hV=>?_) ?_;rotate_left
     .obtain⟨bZ,bK⟩:=hV.wb _ R;obtain⟨hVc,hVf,b0⟩:=bK.two
      (go_simp<;>with_reducible rfl)
     try simp only[PU]
     iterate 6 refine pf ?_
     refine bB (v:=?_) rfl (by rfl) (λV hV=>?_) ?_;rotate_left
     .obtain⟨bZ,bK⟩:=hV.wb _ R;obtain⟨hVc,hVf,b0⟩:=bK.two
      (go_simp<;>with_reducible rfl)
     try simp only[PU]
     iterate 2 refine pf ?_
     refine bB (v:=?_) rfl (by rfl) (λV hV=>?_) ?_;rotate_left
     .obtain⟨e0,e1,e2⟩:=W.al (hV.fr.block fg bh.2 ad)
      (go_simp<;>with_reducible rfl)
     try simp only[PU]
     refine pf ?_;refine aD rfl (λK hK=>?_);go_simp;refine(Cn ⟨S.heap.size+1,S.heap.size+1+1,A,n,c,l,GA,gn,gc,MA,mn,mc,some ⟨fg,0,none⟩,fn,fc,M,F,ar⟩ L (G.map (·.1)++ck f.params) (a4 ⟨G,M,F⟩++f.params.map (·.1)) bw on bL f.name f.params QA j qc (.slice aW bn bc) wr.drew eK.1.wr (eK.2.1.sl (λb _ h=>h.elim) (λb O aS=>⟨O,λhm=>by rcases hm with hm|hm<;>(simp only at hm;omega)⟩)) eK.2.2.1 (λk ap=>eK.2.2.2 k ad) ((bG.2.1.al λb O=>(a8.2.1.trans IK.drew).block b O.2 (λh=>h)).mono λb O=>⟨by have:=O.2;have:=ag;show b<wr.heap.size;omega,λhm=>by have:=O.1;rcases hm with hm|hm<;>(simp only at hm;omega)⟩) bR).mono ?_;rintro e aT ⟨ls,a0,cg,b8,b7,rfl,dz,cf,bz,aM,aa⟩;have r:¬(fg=S.heap.size+1\/fg=S.heap.size+1+1):=ad;have aU:=r;obtain⟨cur,t⟩:=eK.1.fs.GD;have bo:=(t.on aa r).frozen;have gq:=(t.on aa r).lt;obtain⟨e0,e1,e2⟩:=W.al (aa.block fg bh.2 r);have bs:=ae (eK.1.body bG.1 aM aa dz cf bz);refine dA hK (⟨aa,λ_ _=>⟨a0,aM.blk⟩⟩) ?_;clear hK K;clear dz cf bz aM aa t r aU
     iterate 2 refine pf ?_
     exact fO
  .have bP:¬(i:Int)<(fn:Int):=ad;have N:i=fn:=ad;have bx:=ae N;clear N;have cr:=b9.res;obtain⟨bD,aK,a9⟩:=cr.two;clear cr;go_wp2_with(fail);generalize ca:World.setCell _ _ _=Y;have U:=b9.o;rw[bx.o] at U;obtain⟨bk,bt,bj⟩:=dG (M:=λ_=>False) [.slice GA gn gc,.slice MA mn mc,.slice (some ⟨fg,0,none⟩) fn fc] (by rfl) U.res (w:=S) U.ext (Hx _) ca;have bY:=ae (U.GR bj);clear bD aK a9 ca U bj aI aj af;obtain⟨bD,aK,a9⟩:=bk.two;refine IJ (v:=.agg #[.slice GA gn gc,.slice MA mn mc,.slice (some ⟨fg,0,none⟩) fn fc]) (by simp[results,Tryz.results16,go_sem,bD]) rfl ?_;exact bY.o
section
open Go.Lib
def ha:List Int->List UInt8
 | []=>[59]
 | n::l=>itoa n++44::ha l
def xD(T:List cQ):List UInt8:=T.flatMap λh=>ha [h.owner,h.depth]
def sx(f:ao):List UInt8:=ha [f.proc,f.pc]++(ha f.ints++ha f.aw)
def rM(t:List ao):List UInt8:=91::(t.flatMap sx++[93])
def EX(s:ah):List UInt8:=ha [s.fault]++(ha s.globals++(xD s.table++s.threads.flatMap rM))
theorem kx:∀(u:Nat),(∀c∈decDigits u,48<=c.toNat/\c.toNat<=57)/\decDigits u≠[]:=by
 intro u
 induction u using Nat.strongRecOn with
 | _ u aa=>
  have a:∀d:Nat,d<10->48<=(UInt8.ofNat (48+d)).toNat/\(UInt8.ofNat (48+d)).toNat<=57:=by decide
  rw[decDigits];split
  .rename_i h;exact⟨λc hc=>by rw[ID.1 hc];exact a u h,by simp⟩
  .rename_i h;refine⟨λc hc=>?_,by simp⟩;rcases Ii.1 hc with hc|hc
   .exact(aa (u / 10) ad).1 c hc
   .rw[ID.1 hc];exact a (u % 10) ad
def Fi(l:List UInt8):Nat:=l.foldl (λa c=>10*a+(c.toNat - 48)) 0
theorem vZ:∀(u:Nat),Fi (decDigits u)=u:=by
 intro u
 induction u using Nat.strongRecOn with
 | _ u aa=>
  have a:∀d:Nat,d<10->(UInt8.ofNat (48+d)).toNat - 48=d:=by decide
  rw[decDigits];split
  .rename_i h;simp only[Fi,List.foldl_cons,List.foldl_nil];rw[a u h];omega
  .rename_i h;have:=aa (u / 10) ad;unfold Fi at this ⊢;rw[List.foldl_append,this];simp only[List.foldl_cons,List.foldl_nil];rw[a (u % 10) ad];omega
theorem vY{a b:Nat}(h:decDigits a=decDigits b):a=b:=by rw[<-vZ a,h,vZ]
theorem mS(n:Int):∃c l,itoa n=c::l/\(c=45\/(48<=c.toNat/\c.toNat<=57)):=by
 unfold itoa;split
 .exact⟨45,_,rfl,.inl rfl⟩
 .obtain⟨ac,J⟩:=kx n.toNat
  cases hd:decDigits n.toNat with
  | nil=>exact absurd hd J
  | cons c l=>exact⟨c,l,rfl,.inr (ac c (by rw[hd];simp))⟩
theorem uo(n:Int):∀c∈itoa n,c=45\/(48<=c.toNat/\c.toNat<=57):=by
 intro c hc;unfold itoa at hc;split at hc
 .rcases Iq.1 hc with rfl|hc
  .exact .inl rfl
  .exact .inr ((kx _).1 c hc)
 .exact .inr ((kx _).1 c hc)
theorem Bl{a b:Int}(h:itoa a=itoa b):a=b:=by
 have key:∀u:Nat,∃c l,decDigits u=c::l/\c≠45:=λu=>by
  obtain⟨ac,J⟩:=kx u
  cases hd:decDigits u with
  | nil=>exact absurd hd J
  | cons c l=>
   refine⟨c,l,rfl,λhc=>?_⟩;have:=ac c (by rw[hd];simp);rw[hc] at this;exact absurd this.1 (by decide)
 unfold itoa at h;split at h<;>split at h
 .injection h with _ h;have:=vY h;omega
 .obtain⟨c,l,he,aZ⟩:=key b.toNat;rw[he] at h;injection h with h;exact absurd h.symm aZ
 .obtain⟨c,l,he,aZ⟩:=key a.toNat;rw[he] at h;injection h with h;exact absurd h aZ
 .have:=vY h;omega
theorem BW{z:UInt8}:∀{p q x y:List UInt8},(∀c∈p,c≠z)->(∀c∈q,c≠z)->p++z::x=q++z::y->p=q/\x=y
 | [],[],x,y,_,_,h=>by injection h with _ h;exact⟨rfl,h⟩
 | [],c::q,x,y,_,bp,h=>by injection h with h;exact absurd h.symm (bp c (by simp))
 | c::p,[],x,y,hp,_,h=>by injection h with h;exact absurd h (hp c (by simp))
 | c::p,d::q,x,y,hp,bp,h=>by
  injection h with ac J;obtain⟨aR,bv⟩:=BW (λc hc=>hp c (by simp[hc])) (λc hc=>bp c (by simp[hc])) J;exact⟨by rw[ac,aR],bv⟩
theorem wh(n:Int):∀c∈itoa n,c≠44:=λc hc h=>by
 rcases uo n c hc with ac|ac
 .rw[ac] at h;exact absurd h (by decide)
 .rw[h] at ac;exact absurd ac.1 (by decide)
theorem gv:∀{l k:List Int} {x y:List UInt8},ha l++x=ha k++y->l=k/\x=y
 | [],[],x,y,h=>by simp only[ha,Ip,IC] at h;injection h with _ h;exact⟨rfl,h⟩
 | [],n::k,x,y,h=>by
  obtain⟨c,l,he,hc⟩:=mS n;simp only[ha,he,Ip,IC] at h;injection h with h;subst h
  exact absurd hc (by decide)
 | n::l,[],x,y,h=>by
  obtain⟨c,q,he,hc⟩:=mS n;simp only[ha,he,Ip,IC] at h;injection h with h;subst h
  exact absurd hc (by decide)
 | n::l,m::k,x,y,h=>by
  simp only[ha,Io,Ip] at h;obtain⟨ac,J⟩:=BW (wh n) (wh m) h;obtain⟨aR,bv⟩:=gv J;exact⟨by rw[Bl ac,aR],bv⟩
theorem jC(n:Int)(l:List Int):∃c q,ha (n::l)=c::q/\c≠91/\c≠93:=by
 obtain⟨c,q,he,hc⟩:=mS n;refine⟨c,q++44::ha l,by simp only[ha,he,Ip],λh=>?_,λh=>?_⟩<;>(subst h;exact absurd hc (by decide))
theorem Bb{f g:ao}{x y:List UInt8}(h:sx f++x=sx g++y):f=g/\x=y:=by
 unfold sx at h;simp only[Io] at h;obtain⟨ac,h⟩:=gv h;obtain⟨J,h⟩:=gv h;obtain⟨aR,h⟩:=gv h;injection ac with bv ac;injection ac with ct _;refine⟨?_,h⟩;cases f;cases g
 simp only at J aR bv ct;rw[J,aR,bv,ct]
theorem qo:∀{t d:List ao} {x y:List UInt8},t.flatMap sx++93::x=d.flatMap sx++93::y->t=d/\x=y
 | [],[],x,y,h=>by simp only[List.flatMap_nil,IC] at h;injection h with _ h;exact⟨rfl,h⟩
 | [],f::d,x,y,h=>by
  obtain⟨c,q,he,_,hc⟩:=jC f.proc [f.pc];simp only[List.flatMap_nil,IC,Iv,sx,he,Ip] at h;injection h with h
  exact absurd h.symm hc
 | f::t,[],x,y,h=>by
  obtain⟨c,q,he,_,hc⟩:=jC f.proc [f.pc];simp only[List.flatMap_nil,IC,Iv,sx,he,Ip] at h;injection h with h
  exact absurd h hc
 | f::t,g::d,x,y,h=>by
  simp only[Iv,Io] at h;obtain⟨ac,h⟩:=Bb h;obtain⟨J,aR⟩:=qo h;exact⟨by rw[ac,J],aR⟩
theorem qM:∀{l k:List (List ao)},l.flatMap rM=k.flatMap rM->l=k
 | [],[],_=>rfl
 | [],t::k,h=>by simp[rM] at h
 | t::l,[],h=>by simp[rM] at h
 | t::l,d::k,h=>by
  simp only[Iv,rM,Ip,Io,IC] at h;injection h with _ h;obtain⟨ac,J⟩:=qo h;rw[ac,qM J]
theorem pF:∀(l:List (List ao)),l.flatMap rM=[]\/∃q,l.flatMap rM=91::q
 | []=>.inl rfl
 | t::l=>.inr ⟨_,by simp only[Iv,rM,Ip];rfl⟩
theorem tb{x y:List UInt8}(hx:x=[]\/∃q,x=91::q)(a4:y=[]\/∃q,y=91::q):∀{T aw:List cQ},xD T++x=xD aw++y->T=aw/\x=y
 | [],[],h=>⟨rfl,h⟩
 | [],d::aw,h=>by
  obtain⟨c,q,he,hc,_⟩:=jC d.owner [d.depth];simp only[xD,List.flatMap_nil,IC,Iv,he,Ip] at h;rcases hx with rfl|⟨r,rfl⟩
  .cases h
  .injection h with h;exact absurd h.symm hc
 | d::T,[],h=>by
  obtain⟨c,q,he,hc,_⟩:=jC d.owner [d.depth];simp only[xD,List.flatMap_nil,IC,Iv,he,Ip] at h;rcases a4 with rfl|⟨r,rfl⟩
  .cases h
  .injection h with h;exact absurd h hc
 | d::T,a::aw,h=>by
  simp only[xD,Iv,Io] at h;obtain⟨ac,h⟩:=gv h;obtain⟨J,aR⟩:=tb hx a4 (T:=T) (aw:=aw) h;injection ac with bv ac;injection ac with ct _;refine⟨?_,aR⟩;rw[J];cases d;cases a
  simp only at bv ct;rw[bv,ct]
theorem keyB_inj{s bP:ah}(h:EX s=EX bP):s=bP:=by
 unfold EX at h;obtain⟨ac,h⟩:=gv h;obtain⟨J,h⟩:=gv h;obtain⟨aR,h⟩:=tb (pF _) (pF _) h;have bv:=qM h;injection ac with ac _;cases s;cases bP
 simp only at ac J aR bv;rw[ac,J,aR,bv]
end
end Go.Proofs.YtajlmkkidmjgoaaGreatDoor

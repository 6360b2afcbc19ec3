/- Part 38 of the proof. No condition of its own. -/
import Derived.Test.YtnhhdaggkiomoaaGreatQ37
namespace Go.Proofs.YtnhhdaggkiomoaaGreat
open Go.RowKit Go.Proofs.Tryz
set_option maxRecDepth 1000000
set_option maxHeartbeats 25600000
set_option linter.unusedVariables false
variable{B g z:Nat}{P:Nat→Prop}{p:Prop}{e:TypeId}{f:aK}{b:an}
namespace CJ
theorem eQ(h:p:=by
 refine b3 ?_;generalize bu:World.setCell _ _ _=hO;have hc:wr.heap.size≤az:=ad;obtain⟨bI,bE,bz⟩:=dU (M:=fun b=>b=S.heap.size+1) [.string ((⟨#[112]⟩:ByteArray)++strOf [byteOf bv]),.bool _] (by rfl) dI aj hc bu;obtain⟨ht,bI⟩:∃ht,aq hO az 145 #[.string ((⟨#[112]⟩:ByteArray)++strOf [byteOf bv]),.bool ht]:=⟨_,bI⟩
 rw[D8 ad aJ.o] at bI;have iy:=ck.blk.lt;have ir:=bV.2.2.1.lt;have bl:=cI (ay.cQ bz fun b O h=>ad) (bV.2.1.trans bE) (bV.2.2.1.on bE ad) (bV.2.2.2.c4 bE (fun b O _=>⟨fun h=>h,ad⟩)) bI;have b0:cN.heap.size+1+1≤hO.heap.size:=by have:=bE.size;omega
 clear bu bI bE bz ay aj dI bs aX a4;obtain⟨f0,dL,dN⟩:=bl.2.2.1.two;obtain⟨bs,aX,a4⟩:=bl.2.2.2.2.two;go_wp2_with(at_builtin;refine bQ Hd rfl (.tmp 167) (.tmp 169) rfl bl.2.2.2.1 (s4.2 rfl:(ds (ue m,ht)).rep hO _ _) rfl rfl rfl ad ad b0 ?_;intro iq hU hZ hR b5 h7 h6;have f2:=bl.2.2.1.on b5 (fun O=>by have:=(bl.2.2.2.1.lt O).1;omega);have gW:=ag hR b5;clear f0 dL dN hR b5 h7 h6 bs aX a4;obtain⟨f0,dL,dN⟩:=f2.two;clear f2);generalize hX:World.setCell _ _ _=hW;have bk:∀b,(Value.slice PA pn pc).ownBlock=some b→cN.heap.size+1+1≤b:=fun b O=>(bl.2.2.2.1.lt O).1;have eN:=cL hX;have bf:aq hW (cN.heap.size+1) 143 #[.string (jx i),.slice iq (pn+1) hU,.slice none 0 0]:=hX▸(bl.2.2.1.on gW.2 (fun O=>by have:=bk _ O;omega)).aM 1 _;have gM:=(bl.1.cQ gW.2 fun b O h=>by have:=bk b h;omega).cQ eN fun b O h=>ad;have L:Fr (fun b=>b=S.heap.size+1) cN hW:=(bl.2.1.eN (gW.2.below bl.2.1.size fun k ap h=>by have:=bk k h;omega)).eN (eN.below (lK bl.2.1.size gW.2.size) fun k ap h=>ad);have hm:=gW.1.c4 eN fun b O _=>⟨fun h=>h,ad⟩
 have hh:=bH gM L bf hm;clear hX eN bf gM L hm f0 dL dN bk;obtain⟨bO,aQ⟩:∃bO,m=bO+1:=⟨m - 1,ad⟩
 have cK:(m:Int) - 1=((bO:Nat):Int):=ad;go_roundw
 case rel=>
  refine⟨bO,iq,pn+1,hU,ps++[(ue m,ht)],by first|(rw[cK])|(congr 1)|go_num,ad,ad,fun h=>ad,fun h=>?_,hh.1,hh.2.1,hh.2.2.1,by rw[KN];exact hh.2.2.2⟩;have ac:=cl.2 h;rw[aQ] at ac;rw[aQ,←ac];simp[eX]
 case measure=>exact aH
 ):p:=h
theorem zY(h:p:=by
 generalize hb:IntKind.u8.wrap (IntKind.i64.wrap (48+(m:Int)))=bv;obtain⟨b9,hP⟩:∃b9,b9=wr.heap.size:=⟨_,rfl⟩
 have aJ:=ae hb;clear hb;have hr:(strOf [byteOf bv]).size=1:=aO _;have U:=ag bV.1 (Fr.refl (fun b=>b=S.heap.size+1) wr);refine gU (P:=?_) (ops:=?_) (Q:=?_) (R:=?_) (tails:=?_) (rest:=.pick [14] (fun _=>.stop)) (aa:=?_)
  (C:=fun(aW az j:Nat) bT=>cm bT (S.heap.size+1) A n c l∧Fr (fun b=>b=S.heap.size+1) wr bT∧aq bT az 145 #[.string ⟨#[]⟩,.bool false]∧b9≤az∧j<3) (fun key=>?_) ?_
 rotate_left 6
 ·
  refine qG ?_ ?_ ?_
  ·
   refine dP ?_;refine bw (fun V=>Ext wr V∧aq V wr.heap.size 5 #[.int .u8 bv]) ⟨(Lo.alloc _).drew,Lp⟩ (fun c1 hV=>?_);have aG:=ag (U.1.cQ hV.1 fun _ _ h=>h) (U.2.trans (hV.1.mono fun _ h=>h.elim));have h8:wr.heap.size≤wr.heap.size:=U.2.size;have bn:=ae hV.2;clear hV;obtain⟨e0,a6,aP⟩:=bn.two;refine cx (v:=?_) rfl (by rfl) (fun V hV=>?_) ?_;rotate_left
   ·have b6:=fu V (wr.heap.size) bv ((hV.cell aP ad).trans (e0 0))
    (go_simp<;>with_reducible rfl)
   try simp only[PU]
   clear e0 a6 aP;refine tf ?_;refine aY ?_ ?_
   ·
    refine aC rfl (fun K hK=>?_) rfl;go_simp;refine(a2 _ (S.heap.size+1) A n c l 3 (aG.1.cQ (M:=fun _=>False) Lo (fun _ _ h=>h)) ad ad).mono ?_;rintro e c2 ⟨cr,rfl,bx,O,h,he⟩;obtain⟨j,rfl⟩:=KL bx;have bi:j<3:=ad;have aj:Fr (fun b=>b=S.heap.size+1) c1 c2:=he.fr;have b7:=ag h (aG.2.trans aj);have hv:=ae (bn.on aj ad);refine dz hK (he.fr) ?_;clear hK K;clear h he aj bx O
    iterate 2 refine tf ?_
    refine ao ?_;refine dP ?_;refine bw (fun V=>Ext c2 V∧aq V c2.heap.size 145 #[.string ⟨#[]⟩,.bool false]) ⟨Lo.alloc _,Lp⟩ (fun iz hV=>?_);have gZ:=ag (b7.1.cQ hV.1 fun _ _ h=>h) (b7.2.trans (hV.1.mono fun _ h=>h.elim));have h9:wr.heap.size≤c2.heap.size:=b7.2.size;have hA:=ae hV.2;have h0:=ae (hv.ai hV.1);clear hV;have ah:=And.intro gZ.1 (And.intro gZ.2 (And.intro hA.o (And.intro (show b9≤c2.heap.size by omega) bi)));revert ah;generalize wr.heap.size=aW;generalize c2.heap.size=az;intro ah;exact key aW az j _ ah
   ·
    refine dP ?_;refine bw (fun V=>Ext c1 V∧aq V c1.heap.size 145 #[.string ⟨#[]⟩,.bool false]) ⟨Lo.alloc _,Lp⟩ (fun ik hV=>?_);have g0:=ag (aG.1.cQ hV.1 fun _ _ h=>h) (aG.2.trans (hV.1.mono fun _ h=>h.elim));have ia:wr.heap.size≤c1.heap.size:=aG.2.size;have hB:=ae hV.2;have hw:=ae (bn.ai hV.1);clear hV;refine ao ?_;refine aC rfl (fun K hK=>?_) rfl;go_simp;refine(a2 _ (S.heap.size+1) A n c l 3 (g0.1.cQ (M:=fun _=>False) Lo (fun _ _ h=>h)) ad ad).mono ?_;rintro e il ⟨cr,rfl,bx,O,h,he⟩;obtain⟨j,rfl⟩:=KL bx;have bi:j<3:=ad;have aj:Fr (fun b=>b=S.heap.size+1) ik il:=he.fr;have g1:=ag h (g0.2.trans aj);have h1:=ae (hw.on aj ad);have hC:=ae (hB.on aj ad);refine dz hK (he.fr) ?_;clear hK K;clear h he aj bx O
    iterate 2 refine tf ?_
    have ah:=And.intro g1.1 (And.intro g1.2 (And.intro hC.o (And.intro (show b9≤c1.heap.size by omega) bi)));revert ah;generalize wr.heap.size=aW;generalize c1.heap.size=az;intro ah;exact key aW az j _ ah
  ·
   refine aC rfl (fun K hK=>?_) rfl;go_simp;refine(a2 _ (S.heap.size+1) A n c l 3 (U.1.cQ (M:=fun _=>False) (Lo.drew) (fun _ _ h=>h)) ad ad).mono ?_;rintro e aA ⟨cr,rfl,bx,O,h,he⟩;obtain⟨j,rfl⟩:=KL bx;have bi:j<3:=ad;have aj:Fr (fun b=>b=S.heap.size+1) wr aA:=Fr.aF he.fr;have aw:=ag h (U.2.trans aj);refine dz hK (he.fr) ?_;clear hK K;clear h he aj bx O;refine tf ?_;refine aY ?_ ?_
   ·
    refine dP ?_;refine bw (fun V=>Ext aA V∧aq V aA.heap.size 5 #[.int .u8 bv]) ⟨Lo.alloc _,Lp⟩ (fun gR hV=>?_);have cd:=ag (aw.1.cQ hV.1 fun _ _ h=>h) (aw.2.trans (hV.1.mono fun _ h=>h.elim));have ib:wr.heap.size≤aA.heap.size:=aw.2.size;have gT:=ae hV.2;clear hV;obtain⟨e0,a6,aP⟩:=gT.two;refine cx (v:=?_) rfl (by rfl) (fun V hV=>?_) ?_;rotate_left
    ·have b6:=fu V (aA.heap.size) bv ((hV.cell aP ad).trans (e0 0))
     (go_simp<;>with_reducible rfl)
    try simp only[PU]
    clear e0 a6 aP
    iterate 2 refine tf ?_
    refine ao ?_;refine dP ?_;refine bw (fun V=>Ext gR V∧aq V gR.heap.size 145 #[.string ⟨#[]⟩,.bool false]) ⟨Lo.alloc _,Lp⟩ (fun iA hV=>?_);have g2:=ag (cd.1.cQ hV.1 fun _ _ h=>h) (cd.2.trans (hV.1.mono fun _ h=>h.elim));have ic:wr.heap.size≤gR.heap.size:=cd.2.size;have hE:=ae hV.2;have h2:=ae (gT.ai hV.1);clear hV;have ah:=And.intro g2.1 (And.intro g2.2 (And.intro hE.o (And.intro (show b9≤gR.heap.size by omega) bi)));revert ah;generalize aA.heap.size=aW;generalize gR.heap.size=az;intro ah;exact key aW az j _ ah
   ·
    refine dP ?_;refine bw (fun V=>Ext aA V∧aq V aA.heap.size 145 #[.string ⟨#[]⟩,.bool false]) ⟨Lo.alloc _,Lp⟩ (fun gS hV=>?_);have cq:=ag (aw.1.cQ hV.1 fun _ _ h=>h) (aw.2.trans (hV.1.mono fun _ h=>h.elim));have ie:wr.heap.size≤aA.heap.size:=aw.2.size;have hG:=ae hV.2;clear hV;refine ao ?_;refine dP ?_;refine bw (fun V=>Ext gS V∧aq V gS.heap.size 5 #[.int .u8 bv]) ⟨Lo.alloc _,Lp⟩ (fun iB hV=>?_);have g3:=ag (cq.1.cQ hV.1 fun _ _ h=>h) (cq.2.trans (hV.1.mono fun _ h=>h.elim));have ig:wr.heap.size≤gS.heap.size:=cq.2.size;have hx:=ae hV.2;have hH:=ae (hG.ai hV.1);clear hV;obtain⟨e0,a6,aP⟩:=hx.two;refine cx (v:=?_) rfl (by rfl) (fun V hV=>?_) ?_;rotate_left
    ·have b6:=fu V (gS.heap.size) bv ((hV.cell aP ad).trans (e0 0))
     (go_simp<;>with_reducible rfl)
    try simp only[PU]
    clear e0 a6 aP
    iterate 2 refine tf ?_
    have ah:=And.intro g3.1 (And.intro g3.2 (And.intro hH.o (And.intro (show b9≤aA.heap.size by omega) bi)));revert ah;generalize gS.heap.size=aW;generalize aA.heap.size=az;intro ah;exact key aW az j _ ah
  ·
   refine dP ?_;refine bw (fun V=>Ext wr V∧aq V wr.heap.size 145 #[.string ⟨#[]⟩,.bool false]) ⟨(Lo.alloc _).drew,Lp⟩ (fun c3 hV=>?_);have aT:=ag (U.1.cQ hV.1 fun _ _ h=>h) (U.2.trans (hV.1.mono fun _ h=>h.elim));have ih:wr.heap.size≤wr.heap.size:=U.2.size;have g7:=ae hV.2;clear hV;refine aY ?_ ?_
   ·
    refine dP ?_;refine bw (fun V=>Ext c3 V∧aq V c3.heap.size 5 #[.int .u8 bv]) ⟨Lo.alloc _,Lp⟩ (fun im hV=>?_);have g4:=ag (aT.1.cQ hV.1 fun _ _ h=>h) (aT.2.trans (hV.1.mono fun _ h=>h.elim));have ii:wr.heap.size≤c3.heap.size:=aT.2.size;have gV:=ae hV.2;have hJ:=ae (g7.ai hV.1);clear hV;obtain⟨e0,a6,aP⟩:=gV.two;refine cx (v:=?_) rfl (by rfl) (fun V hV=>?_) ?_;rotate_left
    ·have b6:=fu V (c3.heap.size) bv ((hV.cell aP ad).trans (e0 0))
     (go_simp<;>with_reducible rfl)
    try simp only[PU]
    clear e0 a6 aP;refine tf ?_;refine ao ?_;refine aC rfl (fun K hK=>?_) rfl;go_simp;refine(a2 _ (S.heap.size+1) A n c l 3 (g4.1.cQ (M:=fun _=>False) Lo (fun _ _ h=>h)) ad ad).mono ?_;rintro e io ⟨cr,rfl,bx,O,h,he⟩;obtain⟨j,rfl⟩:=KL bx;have bi:j<3:=ad;have aj:Fr (fun b=>b=S.heap.size+1) im io:=he.fr;have g5:=ag h (g4.2.trans aj);have h3:=ae (gV.on aj ad);have hL:=ae (hJ.on aj ad);refine dz hK (he.fr) ?_;clear hK K;clear h he aj bx O
    iterate 2 refine tf ?_
    have ah:=And.intro g5.1 (And.intro g5.2 (And.intro hL.o (And.intro (show b9≤wr.heap.size by omega) bi)));revert ah;generalize c3.heap.size=aW;exact r8
   ·
    refine aC rfl (fun K hK=>?_) rfl;go_simp;refine(a2 _ (S.heap.size+1) A n c l 3 (aT.1.cQ (M:=fun _=>False) Lo (fun _ _ h=>h)) ad ad).mono ?_;rintro e dC ⟨cr,rfl,bx,O,h,he⟩;obtain⟨j,rfl⟩:=KL bx;have bi:j<3:=ad;have aj:Fr (fun b=>b=S.heap.size+1) c3 dC:=he.fr;have cC:=ag h (aT.2.trans aj);have hM:=ae (g7.on aj ad);refine dz hK (he.fr) ?_;clear hK K;clear h he aj bx O;refine tf ?_;refine ao ?_;refine dP ?_;refine bw (fun V=>Ext dC V∧aq V dC.heap.size 5 #[.int .u8 bv]) ⟨Lo.alloc _,Lp⟩ (fun iC hV=>?_);have g6:=ag (cC.1.cQ hV.1 fun _ _ h=>h) (cC.2.trans (hV.1.mono fun _ h=>h.elim));have ij:wr.heap.size≤dC.heap.size:=cC.2.size;have hy:=ae hV.2;have hN:=ae (hM.ai hV.1);clear hV;obtain⟨e0,a6,aP⟩:=hy.two;refine cx (v:=?_) rfl (by rfl) (fun V hV=>?_) ?_;rotate_left
    ·have b6:=fu V (dC.heap.size) bv ((hV.cell aP ad).trans (e0 0))
     (go_simp<;>with_reducible rfl)
    try simp only[PU]
    clear e0 a6 aP
    iterate 2 refine tf ?_
    have ah:=And.intro g6.1 (And.intro g6.2 (And.intro hN.o (And.intro (show b9≤wr.heap.size by omega) bi)));revert ah;generalize dC.heap.size=aW;exact r8
 ·
  exact Bh
 ):p:=h
end CJ
open CJ in
theorem Jq(S:World)(gQ:Value)(Q:Exit→Act→World→Prop)(hQ0:∀c a d v w,Q (.panic c) (a.put d v) w→Q (.panic c) a w)
  (s:∀bJ bD,(∀a ab,Code.wp prog (nw 32) (Exit.then bD Q) a ab→bJ a ab)→(∀a ab,Code.wp prog (GM 42) Q a ab→bD a ab)→ET S gQ (Exit.then bD Q) bJ)
  (K:Act→World→Prop) (hK:∀a ab,Code.wp prog (nw 19) Q a ab→K a ab):ES S gQ Q K:=by
 unfold ES;intro ip A n c l ar MA mn mc M GA gn gc G au ba hs hu gK gO u8 gL eO go gp cc bR bS u16 gq gr eR eS eT eU eV eW eY eZ e3 e6 e7 e8 e9 u32 fa fb fd fe ff fh fi fk fl fm fo fp fq fr fs ft fv fw fx fy fz fA fB fC fD fE fF fG fH fI fJ u64 fK fL fM fN fO fP fQ fR fS fT fU fV fW fX fY fZ f3 f4 f5 f6 f7 f8 f9 ga gb gd ge gf gg gh gi gj gk gl gm H I am aF aL aM aN aU a1 a8 bb be bj bo br bt bA bF bG bL bM bW bZ b1 b2 b8 ca cb ce cj cn co cw cy cz cA cD cE cF cG cH cJ cM cO cP cQ cS cT cU cV cW cX cY cZ c4 c5 c6 c7 c8 c9 da db dc dd de df dg dh di dj dk dl dm dn dp dr dt du dv dw dx dy dA dB dD dE dF dG dH dJ dK dM dQ dR dS dT dV dW dX dY dZ d0 d1 d2 d3 d4 d5 d6 d7 d8 d9 ea eb ec ed ee ef eg eh ei ej ek el em en eo ep eq er es et eu ev ew ex ey ez eA eB eC eD eE eF eG eH eI eJ eL eM gu gv gw gx gy gz gA gB gC gD gE gG gH gI gJ w aZ;obtain⟨bg,gX⟩:=aI aZ.Jq s;obtain⟨u,g9⟩:∃u,u=w.heap.size:=⟨_,rfl⟩
 rw[←g9] at bg;clear aZ s g9;conv=>arg 2;whnf
 conv at hK=>enter [a,w,1,2];whnf
 obtain⟨a0,ai,af⟩:=bg.blk.two;go_wp2_with(fail);refine(a2 w (S.heap.size+1) A n c l 4 bg.src ad ad).mono ?_;rintro e aS ⟨cv,rfl,a3,bU,h,he⟩;obtain⟨N,rfl⟩:=KL a3;have hi:N<4:=ad;have gY:=ae (bg.next h he.fr);clear h he a0 ai af bg a3 bU;go_wp2_with(fail);go_loopw [12] (fun cu wr=>∃(i:Nat) (FA:Ls) (fc:Nat) (F:List aK),cu=.int .i64 i∧i≤N+1∧y3 S u wr A n c l ar MA mn mc M GA gn gc G au ba FA i fc F) (fun cu _=>N+1 - (intOf cu).toNat)
 case atStart=>exact⟨0,none,0,[],rfl,ad,gY.o⟩
 case round=>
  obtain⟨i,FA,fc,F,rfl,an,aZ⟩:=hrel;obtain⟨cN,rfl⟩:∃cN,cN=wr:=⟨wr,rfl⟩
  clear gY;have ck:=ae aZ;obtain⟨a0,ai,af⟩:=aZ.blk.two;have cf:F.length=i:=by have:=aZ.fs.len;simpa using this
  have hD:=aZ.hD;clear aZ;by_cases ak:i≤N
  ·have gN:(i:Int)≤(N:Int):=ad;have e2:i≤3:=ad;have b6:=fun(W:World) (v:Int)=>kP W v;have hS:∀v,(strOf [byteOf v]).size=1:=fun v=>aO _;go_upto_region 24 with(fail);clear hS;generalize hX:World.alloc _ _=g8;have bX:=iO hX;have ha:aq g8 (cN.heap.size+1) 143 #[.string (⟨#[102]⟩++strOf [byteOf (48+(i:Int))]),.slice none 0 0,.slice none 0 0]:=by
    rw[←hX];exact aq.hL _ _ _ (by simp)
   have e4:=ck.src.cQ bX fun _ _ h=>h;have z:=aB e4 bX ha;clear hX bX ha e4 a0 ai af;by_cases f1:i=0
   case' pos=>
    have ci:((i:Int) == 0)=true:=by simp;omega
    obtain⟨f0,dL,dN⟩:=z.2.2.two;have ct:=ae f1;clear f1;go_upto_region 26 with(fail);generalize hX:World.setCell _ _ _=Y;have J:=cL hX;have ix:=ck.blk.lt;have hF:cm Y (S.heap.size+1) A n c l∧Fr (fun b=>b=S.heap.size+1) cN Y∧aq Y (cN.heap.size+1) 143 #[.string (jx i),.slice none 0 0,.slice none 0 0]:=by
     refine⟨z.1.cQ J (fun b O h=>ad),(z.2.1.mono fun _ h=>h.elim).eN (J.below z.2.1.size fun k ap h=>ad),?_⟩;rw[←hX,ct.o];exact z.2.2.aM 0 _
    clear hX J f0 dL dN z
   case' neg=>
    have ci:((i:Int) == 0)=false:=by simp;omega
    have ct:=ae f1;clear f1;go_upto_region 26 with(fail);have hF:cm g8 (S.heap.size+1) A n c l∧Fr (fun b=>b=S.heap.size+1) cN g8∧aq g8 (cN.heap.size+1) 143 #[.string (jx i),.slice none 0 0,.slice none 0 0]:=⟨z.1,z.2.1.mono fun _ h=>h.elim,by have:=z.2.2;rw[DE ad ct.o rfl] at this;exact this⟩
    clear z;revert hF;generalize g8=Y;intro hF
   all_goals
    clear b6;have bV:=ae hF;obtain⟨a0,ai,af⟩:=(ck.next bV.1 bV.2.1).blk.two;clear hF;go_wp2_with(fail);refine(a2 Y (S.heap.size+1) A n c l 3 bV.1 ad ad).mono ?_;rintro e hl ⟨bP,rfl,a3,bU,h,he⟩;obtain⟨hk,rfl⟩:=KL a3;have bB:hk≤2:=ad;have b4:=aB h (bV.2.1.trans he.fr) (bV.2.2.on he.fr (aD ck.blk.lt));clear h he a0 ai af bV a3 bU;go_wp2_with(fail);go_loopw [14] (fun ho bC=>∃(m:Nat) (PA:Ls) (pn pc:Nat) (ps:List (ByteArray×Bool)),ho=.int .i64 m∧m≤2∧pn+m≤2∧(i=0→ps=[])∧(i≠0→ps.map (·.1)++eX m=eX hk)∧cm bC (S.heap.size+1) A n c l∧Fr (fun b=>b=S.heap.size+1) cN bC∧aq bC (cN.heap.size+1) 143 #[.string (jx i),.slice PA pn pc,.slice none 0 0]∧Gr (fun _=>False) (cN.heap.size+1+1) 145 2 bC PA pn pc (ps.map ds)) (fun ho _=>(intOf ho).toNat)
    case atStart=>exact⟨hk,none,0,0,[],rfl,bB,ad,fun _=>rfl,fun _=>rfl,b4.1,b4.2.1,b4.2.2,Gr.nil _ _ _ _ _⟩
    case round=>
     obtain⟨m,PA,pn,pc,ps,rfl,al,eP,hn,hp,hF⟩:=hrel;clear b4;have bV:=ae hF;have cl:=ag hn hp;have hQ:=ck.next hF.1 hF.2.1;obtain⟨a0,ai,af⟩:=hQ.blk.two;obtain⟨f0,dL,dN⟩:=hF.2.2.1.two;have hz:=ae hQ;clear hF hn hp hQ;by_cases ak:0<m∧0<i
     ·obtain⟨hj,cg⟩:=ak;have q1:decide ((m:Int) > 0)=true:=by simp;omega
      have cB:decide ((i:Int) > 0)=true:=by simp;omega
      have hf:(m:Int)≤2:=ad;have gP:¬S.heap.size+1+1=S.heap.size+1:=ad;have ch:S.heap.size+1+1<wr.heap.size:=hz.blk.lt;clear f0 dL dN;go_upto_region 29 with(fail);exact zX
     ·have dq:(¬0<m)∨((0<m)∧¬0<i):=by
       by_cases ac:0<m
       ·exact .inr ⟨ac,fun h=>ak ⟨ac,h⟩⟩
       ·exact .inl ac
      have hq:∃bc,bc≤2∧ps.map (·.1)=eX bc:=by
       by_cases ac:i=0
       ·exact⟨0,ad,by rw[cl.1 ac];rfl⟩
       ·have av:m=0:=by
         by_cases aV:0<m
         ·exact absurd ⟨aV,ad⟩ ak
         ·omega
        have aV:=cl.2 ac;rw[av] at aV;exact⟨hk,bB,by simpa[eX] using aV⟩
      have h5:=ae hq;clear ak hq;rcases dq with q1|⟨q1,cB⟩
      ·
       exact F3
      ·
       exact F3
  ·have gN:¬(i:Int)≤(N:Int):=ad;go_upto_region 32 with(fail);have cp:=gX.o _ _ (by assumption) (by assumption);unfold ET at cp;exact cp u A n c l ar MA mn mc M GA gn gc G au ba FA i fc F cN ad ck.o
theorem qR.lr{G:List (ByteArray×Int)}{M:List bI}{F:List aK}(a2:rY G)(ci:G.length≤2)(hm:m3 M)(ce:1≤M.length∧M.length≤4)(J:∀i f,F[i]?=some f→f.name=jx i∧(∃n,n≤2∧f.params.map (·.1)=eX n)∧(i=0→f.params=[]))(cf:1≤F.length∧F.length≤4):gA ⟨G,M,F⟩:=
 ⟨ci,ce,cf,a2,hm,J⟩
theorem Ei{F:List aK}{i:Nat}(J:F[i]?=some f)(b:an):(F.set i {f with body:=b}).map (fun f=>(f.name,f.params))=F.map fun f=>(f.name,f.params):=by
 exact y9
theorem yJ{F:List aK}{i:Nat}(J:F[i]?=some f)(b:an):(F.set i {f with body:=b}).map (·.name)=F.map (·.name):=by
 exact y9
structure uX(G:List (ByteArray×Int))(M:List bI)(F:List aK)(k L:Nat):Prop where
 lr:∀i f,F[i]?=some f→f.name=jx i∧(∃n,n≤2∧f.params.map (·.1)=eX n)∧(i=0→f.params=[])
 made:∀i f,F[i]?=some f→i<k→e4 (hW ⟨G,M,F⟩ f) 2 (fo ⟨G,M,F⟩++ct f.params) (bh ⟨G,M,F⟩++f.params.map (·.1)) f.body
 bO:∀i f,F[i]?=some f→k≤i→f.body=.nil
 num:(F.map fun f=>f.body.num).sum+2*L≤48
theorem qR.start{G:List (ByteArray×Int)}{M:List bI}{F:List aK}(h:qR F):uX G M F 0 24:=by
 refine⟨fun i f J=>⟨(h i f J).1,(h i f J).2.1,(h i f J).2.2.1⟩,fun i f _ an=>ad,fun i f J _=>(h i f J).2.2.2,?_⟩;have h0:(F.map fun f=>f.body.num).sum=0:=by
  have ac:F.map (fun f=>f.body.num)=F.map fun _=>0:=List.map_congr_left fun f J=>by
   obtain⟨i,an⟩:=List.getElem?_of_mem J;rw[(h i f an).2.2.2];rfl
  rw[ac];clear ac h
  induction F with
  | nil=>rfl
  | cons f F ao=>simpa using ao
 omega
theorem FP{F:List aK}:∀{i:Nat} {f:aK},F[i]?=some f→f.body=.nil→((F.set i {f with body:=b}).map fun f=>f.body.num).sum=(F.map fun f=>f.body.num).sum+b.num:=by
 induction F with
 | nil=>intro i f J;simp at J
 | cons g F ao=>
  intro i f J hn
  cases i with
  | zero=>
   simp at J;subst J;simp[hn,an.num]
   omega
  | succ i=>
   simp at J;have:=ao (i:=i) J hn;simp only[List.set_cons_succ,KM,List.sum_cons,this];omega
theorem uX.next{G:List (ByteArray×Int)}{M:List bI}{F:List aK}{k L R:Nat}(h:uX G M F k L)(J:F[k]?=some f){ls:List aA}(hm:Made (hW ⟨G,M,F⟩ f) 2 (fo ⟨G,M,F⟩++ct f.params) (bh ⟨G,M,F⟩++f.params.map (·.1)) L R ls):
  uX G M (F.set k {f with body:=.eM ls}) (k+1) R:=by
 have hs:=Ei J (.eM ls);have hn:=yJ J (.eM ls);have ak:=(List.getElem?_eq_some_iff.1 J).1;have hG:∀g,hW ⟨G,M,F.set k {f with body:=.eM ls}⟩ g=hW ⟨G,M,F⟩ g:=fun g=>by simp only[hW,sigs,hs]
 have hT:bh ⟨G,M,F.set k {f with body:=.eM ls}⟩=bh ⟨G,M,F⟩:=by simp only[bh,fo,hn]
 have Q:∀i g,(F.set k {f with body:=.eM ls})[i]?=some g→(i=k∧g={f with body:=.eM ls})∨(i≠k∧F[i]?=some g):=fun i g a2=>by
  by_cases an:k=i
  ·subst an;rw[List.getElem?_set_self ak] at a2;injection a2 with a2;exact .inl ⟨rfl,a2.symm⟩
  ·rw[List.getElem?_set_ne an] at a2;exact .inr ⟨fun h=>an h.symm,a2⟩
 refine⟨fun i g a2=>?_,fun i g a2 an=>?_,fun i g a2 an=>?_,?_⟩
 ·rcases Q i g a2 with⟨rfl,rfl⟩|⟨_,av⟩
  ·exact h.lr _ f J
  ·exact h.lr _ _ av
 ·rw[hG,hT];rcases Q i g a2 with⟨rfl,rfl⟩|⟨ac,av⟩
  ·exact hm.wf
  ·exact h.made i g av ad
 ·rcases Q i g a2 with⟨rfl,rfl⟩|⟨ac,av⟩
  ·omega
  ·exact h.bO i g av ad
 ·rw[FP J (h.bO k f J (KG _))];have ac:=hm.num;have av:=hm.le;have aV:=h.num;omega
theorem uX.wf{G:List (ByteArray×Int)}{M:List bI}{F:List aK}{L:Nat}(h:uX G M F F.length L)(a2:rY G)(ci:G.length≤2)(hm:m3 M)(ce:1≤M.length∧M.length≤4)(cf:1≤F.length∧F.length≤4):ox ⟨G,M,F⟩:=by
 refine(qR.lr a2 ci hm ce h.lr cf).wf (fun f J=>?_) (by have:=h.num;simp only;omega);obtain⟨i,an⟩:=List.getElem?_of_mem J;have ak:=(List.getElem?_eq_some_iff.1 an).1;exact dd _ 2 4 _ _ _ _ (fun _ h=>h) (fun _ _ h=>h) ad (h.made i f an ak)
theorem lS{w:World}{cs:List Value}:(dr f).rep w P cs↔∃(A:Ls) (n c:Nat) (A2:Ls) (n2 c2:Nat),cs=[.string f.name,.slice A n c,.slice A2 n2 c2]∧n≤c∧Sl w P A n (f.params.map ds)∧n2≤c2∧Sl w P A2 n2 (c5 f.body):=by
 unfold dr;rw[bK,cp];constructor
 ·rintro⟨y,rfl,h⟩;obtain⟨A,n,c,cG,rfl,hc,hs,h⟩:=aN.1 h;obtain⟨A2,n2,c2,b5,rfl,b9,bO,h⟩:=aN.1 h;rw[aP] at h;subst h;exact⟨A,n,c,A2,n2,c2,rfl,hc,hs,b9,bO⟩
 ·rintro⟨A,n,c,A2,n2,c2,rfl,hc,hs,b9,bO⟩;exact⟨_,rfl,aN.2 ⟨A,n,c,_,rfl,hc,hs,aN.2 ⟨A2,n2,c2,[],rfl,b9,bO,aP.2 rfl⟩⟩⟩
theorem rq(f:aK):(dr f).sz=3:=rfl
theorem rO{w:World}{P:Nat→Prop}{b:an}{bq:Ls}{on b7:Nat}(hc:on≤b7)(bm:Sl w P bq on (c5 b)):∀(F:List aK) (i:Nat) (xs:List Value) (f:aK),D.aQ w P (F.map dr) xs→F[i]?=some f→D.aQ w P ((F.set i {f with body:=b}).map dr) (xs.set (i*3+2) (.slice bq on b7))
 | [],i,xs,f,h,J=>by simp at J
 | x::F,0,xs,f,h,J=>by
  simp only[List.getElem?_cons_zero,Lj] at J;subst J;rw[KM] at h;obtain⟨j,d,rfl,hx,bb⟩:=gO.1 h;obtain⟨A,n,c,A2,n2,c2,rfl,ac,av,_,_⟩:=lS.1 hx;rw[List.set_cons_zero,KM]
  exact gO.2 ⟨[.string x.name,.slice A n c,.slice bq on b7],d,rfl,lS.2 ⟨A,n,c,bq,on,b7,rfl,ac,av,hc,bm⟩,bb⟩
 | x::F,i+1,xs,f,h,J=>by
  rw[List.getElem?_cons_succ] at J;rw[KM] at h;obtain⟨j,d,rfl,hx,bb⟩:=gO.1 h;have hl:=(D.k6 _ _ hx).trans (rq x);have ao:=rO hc bm F i d f bb J;rw[List.set_cons_succ,KM,List.set_append_right _ _ ad,hl,show (i+1)*3+2 - 3=i*3+2 by omega];exact gO.2 ⟨_,_,rfl,hx,ao⟩
theorem Gr.Jy{w:World}{n c i:Nat}{F:List aK}{bq:Ls}{on b7:Nat}(h:Gr P B e 3 w (some ⟨g,0,none⟩) n c (F.map dr))(J:F[i]?=some f)(hc:on≤b7)(bm:Sl w (lv P w (.slice (some ⟨g,0,none⟩) n c)) bq on (c5 b)):
  Gr P B e 3 (w.setCell ⟨g,i*3+2,none⟩ (.slice bq on b7)) (some ⟨g,0,none⟩) n c ((F.set i {f with body:=b}).map dr):=by
 obtain⟨hl,xs,ac,av⟩:=h;have bE:Fr (fun b=>b=g) w (w.setCell ⟨g,i*3+2,none⟩ (.slice bq on b7)):=(Fr.refl (fun b=>b=g) w).setCell (.inl rfl) _;have hs:=bE.size;have aJ:=(List.getElem?_eq_some_iff.1 J).1;refine⟨by simpa using hl,xs.set (i*3+2) (.slice bq on b7),⟨by rw[List.length_set];exact ac.1,?_⟩,?_⟩
 ·rcases ac.2 with⟨bM,_⟩|⟨ag,cap,cur,bM,O,a2,hn,a1,bW,ht⟩
  ·cases bM
  ·injection bM with bx _ Z;injection bx with bx;injection bx with bx;subst bx;refine .inr ⟨g,cap,cur.setIfInBounds (i*3+2) (.slice bq on b7),by rw[Z],O,aq.aM (show aq w g e cur from a2) (i*3+2) _,hn,a1,by simpa using bW,?_⟩;rw[Array.toList_setIfInBounds,List.take_set,ht]
 ·refine D.bV (fun b O=>⟨O.1,KH O.2.1 hs,O.2.2⟩) _ _ (D.bU (fun b O=>bE.block b O.2.1 fun j=>O.2.2 ?_) _ _ (rO hc bm F i xs f av J));subst j;rfl
theorem Gr.I4{w:World}{n c:Nat}{A:Ls}{l:List D}(h:Gr P B e z w A n c l)(hn:0<n):∃g,A=some ⟨g,0,none⟩∧B≤g∧g<w.heap.size:=by
 obtain⟨_,xs,ac,_⟩:=h;rcases ac.2 with⟨_,h0⟩|⟨g,cap,cur,bM,O,a2,_⟩
 ·omega
 ·injection bM with bM _ _;exact⟨g,bM,O,(Array.getElem?_eq_some_iff.1 a2).1⟩
structure oC(S:World)(u:Nat)(A:Ls)(n c:Nat)(l:List Int)(ar:Bool)(MA:Ls)(mn mc:Nat)(M:List bI)(GA:Ls)(gn gc:Nat)(G:List (ByteArray×Int))(au:Ls)(ba:Nat)(fg fn fc:Nat)(w:World)(F:List aK)(i L:Nat):Prop where
 src:cm w (S.heap.size+1) A n c l
 blk:aq w (S.heap.size+1+1) 134 #[.pointer (some ⟨S.heap.size+1,0,none⟩),.slice GA gn gc,.slice MA mn mc,.slice (some ⟨fg,0,none⟩) fn fc,.int .i64 L,.bool ar]
 res:aq w S.heap.size 27 #[.slice none 0 0,.slice none 0 0,.slice none 0 0]
 ms:Sl w (fun b=>S.heap.size+1+1+1≤b∧b<u) MA mn (M.map ey)
 gs:Sl w (fun b=>S.heap.size+1+1+1≤b∧b<u) GA gn (G.map iA)
 vs:Sl w (fun b=>S.heap.size+1+1+1≤b∧b<u) au gn ((G.map (·.1)).map D.s)
 fs:Gr (fun b=>u≤b) u 143 3 w (some ⟨fg,0,none⟩) fn fc (F.map dr)
 mc:mn≤mc
 gc:gn≤gc
 nm:1≤mn∧mn≤4
 ok:m3 M
 ng:gn≤2
 yU:rY G
 nf:1≤fn∧fn≤4
 bd:uX G M F i L
 kB:L≤24
 ext:Ext S w
 hD:S.heap.size+1+1+1≤u∧u≤w.heap.size
section
variable {S w ab:World} {u:Nat} {A:Ls} {n c:Nat} {l:List Int} {ar:Bool} {MA:Ls} {mn mc:Nat} {M:List bI} {GA:Ls} {gn gc:Nat} {G:List (ByteArray×Int)} {au:Ls} {ba:Nat} {FA:Ls} {fg fn fc:Nat} {F:List aK} {i L R:Nat}
theorem y3.Jr(h:y3 S u w A n c l ar MA mn mc M GA gn gc G au ba FA fn fc F)(hn:1≤fn):∃fg,FA=some ⟨fg,0,none⟩∧oC S u A n c l ar MA mn mc M GA gn gc G au ba fg fn fc w F 0 24:=by
 obtain⟨fg,rfl,_⟩:=h.fs.I4 ad;exact⟨fg,rfl,h.src,h.blk,h.res,h.ms,h.gs,h.vs,h.fs,h.mc,h.gc,h.nm,h.ok,h.ng,h.yU,⟨hn,h.nf⟩,h.Jb.start,KG _,h.ext,h.hD⟩
theorem oC.len(h:oC S u A n c l ar MA mn mc M GA gn gc G au ba fg fn fc w F i L):F.length=fn∧M.length=mn∧G.length=gn:=⟨by have:=h.fs.len;simpa using this,by have:=h.ms.1;simpa using this,by have:=h.gs.1;simpa using this⟩
theorem oC.own(h:oC S u A n c l ar MA mn mc M GA gn gc G au ba fg fn fc w F i L):u≤fg∧fg<w.heap.size:=h.fs.lt rfl
theorem oC.jy(h:oC S u A n c l ar MA mn mc M GA gn gc G au ba fg fn fc w F i L):∀f∈F,f.params.length≤2:=fun f J=>by
 obtain⟨i,an⟩:=List.getElem?_of_mem J;obtain⟨n,hn,hp⟩:=(h.bd.lr i f an).2.1;have:=congrArg List.length hp;rw[KK,l3] at this;omega
theorem oC.ai(h:oC S u A n c l ar MA mn mc M GA gn gc G au ba fg fn fc w F i L)(O:Ext w ab):oC S u A n c l ar MA mn mc M GA gn gc G au ba fg fn fc ab F i L:=by
 have hD:=h.hD;have ap:∀b,(S.heap.size+1+1+1≤b∧b<u)→ab.heap[b]?=w.heap[b]?:=fun b hp=>O.block b (aD hp.2) (fun h=>h);exact⟨h.src.cQ O fun _ _ h=>h,h.blk.ai O,h.res.ai O,h.ms.ak ap,h.gs.ak ap,h.vs.ak ap,h.fs.ai O,h.mc,h.gc,h.nm,h.ok,h.ng,h.yU,h.nf,h.bd,h.kB,h.ext.trans O,hD.1,by have:=O.size;omega⟩
theorem oC.wr(h:oC S u A n c l ar MA mn mc M GA gn gc G au ba fg fn fc w F i L):gw w ⟨S.heap.size+1,S.heap.size+1+1,A,n,c,l,GA,gn,gc,MA,mn,mc,some ⟨fg,0,none⟩,fn,fc,M,F,ar⟩ L:=by
 have hD:=h.hD;exact⟨h.src,h.blk,Nat.lt_succ_self _,h.ms.mono fun b O=>⟨ad,fun hm=>by rcases hm with hm|hm<;>(simp only at hm;omega)⟩,h.fs.sl (fun b O hp=>⟨O,fun hm=>by rcases hm with hm|hm<;>(simp only at hm;omega)⟩) (fun b O hp=>⟨O,fun hm=>by rcases hm with hm|hm<;>(simp only at hm;omega)⟩),h.nm,h.nf,
  fun m hm=>by obtain⟨k,ap⟩:=List.getElem?_of_mem hm;exact⟨(h.ok k m ap).2.1,(h.ok k m ap).2.2.1⟩,h.jy,h.kB⟩
theorem oC.lr(h:oC S u A n c l ar MA mn mc M GA gn gc G au ba fg fn fc w F i L):gA ⟨G,M,F⟩:=qR.lr h.yU (lK h.len.2.2 h.ng) h.ok (lK h.len.2.1 h.nm) h.bd.lr (lK h.len.1 h.nf)
theorem oC.body(h:oC S u A n c l ar MA mn mc M GA gn gc G au ba fg fn fc w F i L){f:aK}(J:F[i]?=some f){ls:List aA}{bq:Ls}{on b7:Nat}
  (hw:gw ab ⟨S.heap.size+1,S.heap.size+1+1,A,n,c,l,GA,gn,gc,MA,mn,mc,some ⟨fg,0,none⟩,fn,fc,M,F,ar⟩ R) (O:Fr (fun b=>b=S.heap.size+1∨b=S.heap.size+1+1) w ab)
  (hm:Made (hW ⟨G,M,F⟩ f) 2 (fo ⟨G,M,F⟩++ct f.params) (bh ⟨G,M,F⟩++f.params.map (·.1)) L R ls) (hc:on≤b7) (hs:Sl ab (fresh w ab) bq on (ls.map bg)) :
  oC S u A n c l ar MA mn mc M GA gn gc G au ba fg fn fc (ab.setCell ⟨fg,i*3+2,none⟩ (.slice bq on b7)) (F.set i {f with body:=.eM ls}) (i+1) R:=by
 have hD:=h.hD;have bn:=h.own;have bW:=O.size;have az:Fr (fun b=>b=fg) ab (ab.setCell ⟨fg,i*3+2,none⟩ (.slice bq on b7)):=(Fr.refl (fun b=>b=fg) ab).setCell (.inl rfl) _;have bE:=az.size;have ap:∀b,(S.heap.size+1+1+1≤b∧b<u)→(ab.setCell ⟨fg,i*3+2,none⟩ (.slice bq on b7)).heap[b]?=w.heap[b]?:=fun b hp=>(az.block b (aD hp.2) (aD hp.2)).trans (O.block b (aD hp.2) fun ah=>by have:=hp.1;rcases ah with ah|ah<;>omega);have a2:Gr (fun b=>u≤b) u 143 3 ab (some ⟨fg,0,none⟩) fn fc (F.map dr):=h.fs.c4 O fun b hm _=>by rcases hm with hm|hm<;>exact⟨ad,ad⟩
 have aN:Ext S ab:=Fr.low (M:=fun b=>b=S.heap.size+1∨b=S.heap.size+1+1) ((h.ext.mono fun _ h=>h.elim).trans O) fun k ap=>by rcases ap with ap|ap<;>omega
 refine⟨hw.src.cQ az fun b ak ah=>by simp only at ak;omega,hw.blk.on az (by show ¬S.heap.size+1+1=fg;omega),(h.res.on O ad).on az ad,h.ms.ak ap,h.gs.ak ap,h.vs.ak ap,?_,h.mc,h.gc,h.nm,h.ok,h.ng,h.yU,h.nf,h.bd.next J hm,hw.kB,
  Fr.low (M:=fun b=>b=fg) ((aN.mono fun _ h=>h.elim).trans az) fun k ap=>by have:=h.ext.size;omega,hD.1,ad⟩
 refine a2.Jy J hc ?_;rw[mu];exact hs.mono fun b O=>⟨by have:=O.1;omega,O.2,fun h=>by injection h with h;have:=O.1;simp only at h;omega⟩
theorem oC.done(h:oC S u A n c l ar MA mn mc M GA gn gc G au ba fg fn fc w F fn L):ox ⟨G,M,F⟩:=by
 have hl:=h.len;have O:=h.bd;rw[←hl.1] at O;exact O.wf h.yU (aD h.ng) h.ok (aD h.nm) (aD h.nf)
end
structure RW(s:Nat)(v0 v1 v2 aj bn:Value)(w ab:World):Prop where
 fr:Fr (fun b=>b=s∨b=s+1) w ab
 wb:∀L:Int,aq w (s+1) 134 #[v0,v1,v2,aj,.int .i64 L,bn]→∃R:Int,aq ab (s+1) 134 #[v0,v1,v2,aj,.int .i64 R,bn]
theorem RW.refl{s:Nat}{v0 v1 v2 aj bn:Value}(w:World):RW s v0 v1 v2 aj bn w w:=⟨Lo,fun L h=>⟨L,h⟩⟩
theorem RW.trans{s:Nat}{v0 v1 v2 aj bn:Value}{w ab aT:World}(h:RW s v0 v1 v2 aj bn w ab)(k:RW s v0 v1 v2 aj bn ab aT):RW s v0 v1 v2 aj bn w aT:=⟨h.fr.trans k.fr,fun L O=>by
 obtain⟨bu,ac⟩:=h.wb L O;exact k.wb bu ac⟩
theorem EE(p:kj)(L:Nat)(V T:Lt)(N:Ls)(bc aa:Nat)(aZ:ByteArray)(ps:List (ByteArray×Bool))(QA:Ls)(cq qc:Nat)(bx:Value)(w:World)(hw:gw w p L)(hN:Sl w (off p.MW w) N bc (V.map D.s))(hV:V.length+L≤60)(J:mg T L)
  (cA:Sl w (off p.MW w) QA cq (ps.map ds)) (bK:cq≤2):Calls prog 77 #[.pointer (some ⟨p.wb,0,none⟩),.agg #[.string aZ,.slice QA cq qc,bx],.slice N bc aa,.int .i64 2,.int .i64 6] w (FZ p 2 V T ps L w):=
 w2 p L 2 6 V T N bc aa aZ ps QA cq qc bx w ad ad hw hN hV J cA bK
structure EP(fg i:Nat)(f:aK)(QA:Ls)(cq qc:Nat)(cf:Ls)(bn bc:Nat)(w:World):Prop where
 c0:w.cell? ⟨fg,i*3,none⟩=some (.string f.name)
 c1:w.cell? ⟨fg,i*3+1,none⟩=some (.slice QA cq qc)
 c2:w.cell? ⟨fg,i*3+2,none⟩=some (.slice cf bn bc)
theorem EP.ak{fg i:Nat}{QA:Ls}{cq qc:Nat}{cf:Ls}{bn bc:Nat}{w ab:World}(h:EP fg i f QA cq qc cf bn bc w)(ap:ab.heap[fg]?=w.heap[fg]?):EP fg i f QA cq qc cf bn bc ab:=
 ⟨(World.cell?_of_block (w:=w) ap).trans h.c0,(World.cell?_of_block (w:=w) ap).trans h.c1,(World.cell?_of_block (w:=w) ap).trans h.c2⟩
theorem oC.Io{S w:World}{u:Nat}{A:Ls}{n c:Nat}{l:List Int}{ar:Bool}{MA:Ls}{mn mc:Nat}{M:List bI}{GA:Ls}{gn gc:Nat}{G:List (ByteArray×Int)}{au:Ls}{ba:Nat}{fg fn fc:Nat}{F:List aK}{i L:Nat}
  (h:oC S u A n c l ar MA mn mc M GA gn gc G au ba fg fn fc w F i L) (an:i<fn):∃(f:aK) (QA:Ls) (cq qc:Nat) (cf:Ls) (bn bc:Nat),F[i]?=some f∧cq≤2∧cq≤qc∧Sl w (fun b=>u≤b∧b<w.heap.size) QA cq (f.params.map ds)∧EP fg i f QA cq qc cf bn bc w:=by
 obtain⟨b1,c6,f,cs,m,cx,r,aP,bp,hc⟩:=Sl.gZ (z:=3) (h.fs.sl (Q:=fun b=>u≤b∧b<w.heap.size) (fun b ak h=>⟨h,ak⟩) (fun b ak h=>⟨h,ak⟩)) (fun _=>rq _) an;obtain⟨QA,cq,qc,cf,bn,bc,rfl,f0,dI,_,_⟩:=lS.1 aP;injection m with m;injection m with ac av aV;subst ac;subst av;have bK:cq≤2:=by
  have bz:=h.jy f (KJ r);have cm:=dI.1;rw[KK] at cm;omega
 have c0:=hc 0 _ rfl;have c1:=hc 1 _ rfl;have c2:=hc 2 _ rfl;simp only[KY,KQ] at c0 c1 c2;exact⟨f,QA,cq,qc,cf,bn,bc,r,bK,f0,dI,c0,c1,c2⟩
theorem Gr.I3{w:World}{n c:Nat}{l:List D}(h:Gr P B e z w (some ⟨g,0,none⟩) n c l):∃cur,aq w g e cur:=by
 obtain⟨_,xs,ac,_⟩:=h;rcases ac.2 with⟨bM,_⟩|⟨ag,cap,cur,bM,O,a2,_⟩
 ·cases bM
 ·injection bM with bM _ _;injection bM with bM;injection bM with bM;subst bM;exact⟨cur,a2⟩
theorem qZ{ps:List (ByteArray×Bool)}{j:Nat}{q:ByteArray×Bool}(h:ps[j]?=some q):ct (ps.take (j+1))=ct (ps.take j)++(if q.2 then [] else [q.1]):=by
 unfold ct;rw[List.take_add_one,h];obtain⟨x,b⟩:=q;cases b<;>simp
theorem sN(ps:List (ByteArray×Bool)):(ct ps).length≤ps.length:=by
 unfold ct;rw[KK];exact List.length_filter_le _ _
theorem oC.Jv{S w ab:World}{u:Nat}{A:Ls}{n c:Nat}{l:List Int}{ar:Bool}{MA:Ls}{mn mc:Nat}{M:List bI}{GA:Ls}{gn gc:Nat}{G:List (ByteArray×Int)}{au:Ls}{ba:Nat}{fg fn fc:Nat}{F:List aK}{L:Nat}
  (h:oC S u A n c l ar MA mn mc M GA gn gc G au ba fg fn fc w F fn L) (O:Fr (fun b=>b=S.heap.size) w ab):kb S (.returned (.agg #[.slice GA gn gc,.slice MA mn mc,.slice (some ⟨fg,0,none⟩) fn fc])) ab:=by
 have hD:=h.hD;have hs:=O.size;have ap:∀b,(S.heap.size+1+1+1≤b∧b<u)→ab.heap[b]?=w.heap[b]?:=fun b hp=>O.block b (aD hp.2) (aD hp.1);have cj:Gr (fun b=>u≤b) u 143 3 ab (some ⟨fg,0,none⟩) fn fc (F.map dr):=h.fs.c4 O fun b hm _=>⟨ad,ad⟩
 exact⟨⟨G,M,F⟩,GA,gn,gc,MA,mn,mc,_,fn,fc,rfl,h.done,h.gc,h.mc,h.fs.cap.1,(h.gs.ak ap).mono fun b hp=>⟨by have:=hp.1;omega,by have:=hp.2;omega⟩,(h.ms.ak ap).mono fun b hp=>⟨by have:=hp.1;omega,by have:=hp.2;omega⟩,
  cj.sl (fun b ak hp=>⟨ad,ak⟩) (fun b ak hp=>⟨ad,ak⟩),Fr.low (M:=fun b=>b=S.heap.size) ((h.ext.mono fun _ h=>h.elim).trans O) fun k ap=>ad⟩
end Go.Proofs.YtnhhdaggkiomoaaGreat

/- Part 39 of the proof. No condition of its own. -/
import Derived.Test.YtbkhhfajcgkpgaaGreatQ35
namespace Go.Proofs.YtbkhhfajcgkpgaaGreat
open Go.RowKit Go.Proofs.Tryz
set_option maxRecDepth 1000000
set_option maxHeartbeats 25600000
set_option linter.unusedVariables false
variable{p:Prop}
namespace BL
theorem gq(h:p:=by
 refine cw ?_;generalize bD:World.setCell _ _ _=hz;have g4:wr.heap.size≤cn:=ab;obtain⟨bt,bA,bk⟩:=dL (M:=fun b=>b=J.heap.size+1) [.string ((⟨#[112]⟩:ByteArray)++strOf [byteOf bv]),.bool _] (by rfl) bH t g4 bD;obtain⟨hh,bt⟩:∃hh,af hz cn 174 #[.string ((⟨#[112]⟩:ByteArray)++strOf [byteOf bv]),.bool hh]:=⟨_,bt⟩
 rw[C9 ab aK.o] at bt;have im:=b4.blk.lt;have ig:=bX.2.2.1.lt;have a1:=dA (av.cG bk fun b O h=>ab) (bX.2.1.trans bA) (bX.2.2.1.on bA ab) (bX.2.2.2.cO bA (fun b O _=>⟨fun h=>h,ab⟩)) bt;have bO:au.heap.size+1+1≤hz.heap.size:=by have:=bA.size;omega
 clear bD bt bA bk av t bH br ah bj;obtain⟨f0,dw,eN⟩:=a1.2.2.1.two;obtain⟨br,ah,bj⟩:=a1.2.2.2.2.two;go_wp2_with(at_builtin;refine bR Gj rfl (.tmp 167) (.tmp 169) rfl a1.2.2.2.1 (sJ.2 rfl:(df (tL m,hh)).rep hz _ _) rfl rfl rfl ab ab bO ?_;intro ie hM hH hE bm hW hU;have gi:=a1.2.2.1.on bm (fun O=>by have:=(a1.2.2.2.1.lt O).1;omega);have gO:=ai hE bm;clear f0 dw eN hE bm hW hU br ah bj;obtain⟨f0,dw,eN⟩:=gi.two;clear gi);generalize hX:World.setCell _ _ _=hG;have bb:∀b,(Value.slice PA pn pc).ownBlock=some b→au.heap.size+1+1≤b:=fun b O=>(a1.2.2.2.1.lt O).1;have c1:Fr (fun b=>b=au.heap.size+1) hH hG:=hX▸(Fr.refl (fun b=>b=au.heap.size+1) hH).setCell (.inl rfl) _;have b8:af hG (au.heap.size+1) 143 #[.string (iJ i),.slice ie (pn+1) hM,.slice none 0 0]:=hX▸(a1.2.2.1.on gO.2 (fun O=>by have:=bb _ O;omega)).aC 1 _;have c3:=(a1.1.cG gO.2 fun b O h=>by have:=bb b h;omega).cG c1 fun b O h=>ab;have an:Fr (fun b=>b=J.heap.size+1) au hG:=(a1.2.1.eB (gO.2.below a1.2.1.size fun k aj h=>by have:=bb k h;omega)).eB (c1.below (oR a1.2.1.size gO.2.size) fun k aj h=>ab);have ha:=gO.1.cO c1 fun b O _=>⟨fun h=>h,ab⟩
 have g5:=bw c3 an b8 ha;clear hX c1 b8 c3 an ha f0 dw eN bb;obtain⟨bn,S⟩:∃bn,m=bn+1:=⟨m - 1,ab⟩
 have bB:(m:Int) - 1=((bn:Nat):Int):=ab;go_roundw
 case rel=>
  refine⟨bn,ie,pn+1,hM,ps++[(tL m,hh)],by first|(rw[bB])|(congr 1)|go_num,ab,ab,fun h=>ab,fun h=>?_,g5.1,g5.2.1,g5.2.2.1,by rw[JX];exact g5.2.2.2⟩;have ae:=gG.2 h;rw[S] at ae;rw[S,←ae];simp[eL]
 case measure=>exact aB
 ):p:=h
theorem zm(h:p:=by
 generalize g3:IntKind.u8.wrap (IntKind.i64.wrap (48+(m:Int)))=bv;obtain⟨a3,hA⟩:∃a3,a3=wr.heap.size:=⟨_,rfl⟩
 have aK:=ad g3;clear g3;have hf:(strOf [byteOf bv]).size=1:=aG _;have U:=ai bX.1 (Fr.refl (fun b=>b=J.heap.size+1) wr);refine iw (P:=?_) (ops:=?_) (Q:=?_) (R:=?_) (tails:=?_) (rest:=.pick [14] (fun _=>.stop)) (aa:=?_)
  (C:=fun(aX cn j:Nat) dz=>b0 dz (J.heap.size+1) A n c l∧Fr (fun b=>b=J.heap.size+1) wr dz∧af dz cn 174 #[.string ⟨#[]⟩,.bool false]∧a3≤cn∧j<3) (fun key=>?_) ?_
 rotate_left 6
 ·
  refine qj ?_ ?_ ?_
  ·
   refine eZ ?_;refine bg (fun V=>Ext wr V∧af V wr.heap.size 5 #[.int .u8 bv]) ⟨(Kn.alloc _).drew,Ko⟩ (fun ca hV=>?_);have aO:=ai (U.1.cG hV.1 fun _ _ h=>h) (U.2.trans (hV.1.mono fun _ h=>h.elim));have hY:wr.heap.size≤wr.heap.size:=U.2.size;have bu:=ad hV.2;clear hV;obtain⟨e0,a5,aZ⟩:=bu.two;refine cf (v:=?_) rfl (by rfl) (fun V hV=>?_) ?_;rotate_left
   ·have bU:=e4 V (wr.heap.size) bv ((hV.cell aZ ab).trans (e0 0))
    (go_simp<;>with_reducible rfl)
   try simp only[PU]
   clear e0 a5 aZ;refine tf ?_;refine bq ?_ ?_
   ·
    refine aE rfl (fun K hK=>?_) rfl;go_simp;refine(aW _ (J.heap.size+1) A n c l 3 (aO.1.cG (M:=fun _=>False) Kn (fun _ _ h=>h)) ab ab).mono ?_;rintro e cl ⟨b6,rfl,aV,O,h,he⟩;obtain⟨j,rfl⟩:=JV aV;have bc:j<3:=ab;have t:Fr (fun b=>b=J.heap.size+1) ca cl:=he.fr;have bG:=ai h (aO.2.trans t);have hk:=ad (bu.on t ab);refine dW hK (he.fr) ?_;clear hK K;clear h he t aV O
    iterate 2 refine tf ?_
    refine ao ?_;refine eZ ?_;refine bg (fun V=>Ext cl V∧af V cl.heap.size 174 #[.string ⟨#[]⟩,.bool false]) ⟨Kn.alloc _,Ko⟩ (fun io hV=>?_);have gR:=ai (bG.1.cG hV.1 fun _ _ h=>h) (bG.2.trans (hV.1.mono fun _ h=>h.elim));have hZ:wr.heap.size≤cl.heap.size:=bG.2.size;have hp:=ad hV.2;have hO:=ad (hk.ak hV.1);clear hV;have aF:=And.intro gR.1 (And.intro gR.2 (And.intro hp.o (And.intro (show a3≤cl.heap.size by omega) bc)));revert aF;generalize wr.heap.size=aX;generalize cl.heap.size=cn;intro aF;exact key aX cn j _ aF
   ·
    refine eZ ?_;refine bg (fun V=>Ext ca V∧af V ca.heap.size 174 #[.string ⟨#[]⟩,.bool false]) ⟨Kn.alloc _,Ko⟩ (fun h8 hV=>?_);have gS:=ai (aO.1.cG hV.1 fun _ _ h=>h) (aO.2.trans (hV.1.mono fun _ h=>h.elim));have h0:wr.heap.size≤ca.heap.size:=aO.2.size;have hq:=ad hV.2;have hl:=ad (bu.ak hV.1);clear hV;refine ao ?_;refine aE rfl (fun K hK=>?_) rfl;go_simp;refine(aW _ (J.heap.size+1) A n c l 3 (gS.1.cG (M:=fun _=>False) Kn (fun _ _ h=>h)) ab ab).mono ?_;rintro e h9 ⟨b6,rfl,aV,O,h,he⟩;obtain⟨j,rfl⟩:=JV aV;have bc:j<3:=ab;have t:Fr (fun b=>b=J.heap.size+1) h8 h9:=he.fr;have gT:=ai h (gS.2.trans t);have hP:=ad (hl.on t ab);have hr:=ad (hq.on t ab);refine dW hK (he.fr) ?_;clear hK K;clear h he t aV O
    iterate 2 refine tf ?_
    have aF:=And.intro gT.1 (And.intro gT.2 (And.intro hr.o (And.intro (show a3≤ca.heap.size by omega) bc)));revert aF;generalize wr.heap.size=aX;generalize ca.heap.size=cn;intro aF;exact key aX cn j _ aF
  ·
   refine aE rfl (fun K hK=>?_) rfl;go_simp;refine(aW _ (J.heap.size+1) A n c l 3 (U.1.cG (M:=fun _=>False) (Kn.drew) (fun _ _ h=>h)) ab ab).mono ?_;rintro e ay ⟨b6,rfl,aV,O,h,he⟩;obtain⟨j,rfl⟩:=JV aV;have bc:j<3:=ab;have t:Fr (fun b=>b=J.heap.size+1) wr ay:=Fr.aO he.fr;have X:=ai h (U.2.trans t);refine dW hK (he.fr) ?_;clear hK K;clear h he t aV O;refine tf ?_;refine bq ?_ ?_
   ·
    refine eZ ?_;refine bg (fun V=>Ext ay V∧af V ay.heap.size 5 #[.int .u8 bv]) ⟨Kn.alloc _,Ko⟩ (fun fJ hV=>?_);have bI:=ai (X.1.cG hV.1 fun _ _ h=>h) (X.2.trans (hV.1.mono fun _ h=>h.elim));have h1:wr.heap.size≤ay.heap.size:=X.2.size;have gE:=ad hV.2;clear hV;obtain⟨e0,a5,aZ⟩:=gE.two;refine cf (v:=?_) rfl (by rfl) (fun V hV=>?_) ?_;rotate_left
    ·have bU:=e4 V (ay.heap.size) bv ((hV.cell aZ ab).trans (e0 0))
     (go_simp<;>with_reducible rfl)
    try simp only[PU]
    clear e0 a5 aZ
    iterate 2 refine tf ?_
    refine ao ?_;refine eZ ?_;refine bg (fun V=>Ext fJ V∧af V fJ.heap.size 174 #[.string ⟨#[]⟩,.bool false]) ⟨Kn.alloc _,Ko⟩ (fun ip hV=>?_);have gU:=ai (bI.1.cG hV.1 fun _ _ h=>h) (bI.2.trans (hV.1.mono fun _ h=>h.elim));have h2:wr.heap.size≤fJ.heap.size:=bI.2.size;have hs:=ad hV.2;have hQ:=ad (gE.ak hV.1);clear hV;have aF:=And.intro gU.1 (And.intro gU.2 (And.intro hs.o (And.intro (show a3≤fJ.heap.size by omega) bc)));revert aF;generalize ay.heap.size=aX;generalize fJ.heap.size=cn;intro aF;exact key aX cn j _ aF
   ·
    refine eZ ?_;refine bg (fun V=>Ext ay V∧af V ay.heap.size 174 #[.string ⟨#[]⟩,.bool false]) ⟨Kn.alloc _,Ko⟩ (fun fK hV=>?_);have bM:=ai (X.1.cG hV.1 fun _ _ h=>h) (X.2.trans (hV.1.mono fun _ h=>h.elim));have h3:wr.heap.size≤ay.heap.size:=X.2.size;have ht:=ad hV.2;clear hV;refine ao ?_;refine eZ ?_;refine bg (fun V=>Ext fK V∧af V fK.heap.size 5 #[.int .u8 bv]) ⟨Kn.alloc _,Ko⟩ (fun iq hV=>?_);have gV:=ai (bM.1.cG hV.1 fun _ _ h=>h) (bM.2.trans (hV.1.mono fun _ h=>h.elim));have h4:wr.heap.size≤fK.heap.size:=bM.2.size;have hm:=ad hV.2;have hu:=ad (ht.ak hV.1);clear hV;obtain⟨e0,a5,aZ⟩:=hm.two;refine cf (v:=?_) rfl (by rfl) (fun V hV=>?_) ?_;rotate_left
    ·have bU:=e4 V (fK.heap.size) bv ((hV.cell aZ ab).trans (e0 0))
     (go_simp<;>with_reducible rfl)
    try simp only[PU]
    clear e0 a5 aZ
    iterate 2 refine tf ?_
    have aF:=And.intro gV.1 (And.intro gV.2 (And.intro hu.o (And.intro (show a3≤ay.heap.size by omega) bc)));revert aF;generalize fK.heap.size=aX;generalize ay.heap.size=cn;intro aF;exact key aX cn j _ aF
  ·
   refine eZ ?_;refine bg (fun V=>Ext wr V∧af V wr.heap.size 174 #[.string ⟨#[]⟩,.bool false]) ⟨(Kn.alloc _).drew,Ko⟩ (fun cs hV=>?_);have aS:=ai (U.1.cG hV.1 fun _ _ h=>h) (U.2.trans (hV.1.mono fun _ h=>h.elim));have h5:wr.heap.size≤wr.heap.size:=U.2.size;have gZ:=ad hV.2;clear hV;refine bq ?_ ?_
   ·
    refine eZ ?_;refine bg (fun V=>Ext cs V∧af V cs.heap.size 5 #[.int .u8 bv]) ⟨Kn.alloc _,Ko⟩ (fun ia hV=>?_);have gW:=ai (aS.1.cG hV.1 fun _ _ h=>h) (aS.2.trans (hV.1.mono fun _ h=>h.elim));have h6:wr.heap.size≤cs.heap.size:=aS.2.size;have gL:=ad hV.2;have hv:=ad (gZ.ak hV.1);clear hV;obtain⟨e0,a5,aZ⟩:=gL.two;refine cf (v:=?_) rfl (by rfl) (fun V hV=>?_) ?_;rotate_left
    ·have bU:=e4 V (cs.heap.size) bv ((hV.cell aZ ab).trans (e0 0))
     (go_simp<;>with_reducible rfl)
    try simp only[PU]
    clear e0 a5 aZ;refine tf ?_;refine ao ?_;refine aE rfl (fun K hK=>?_) rfl;go_simp;refine(aW _ (J.heap.size+1) A n c l 3 (gW.1.cG (M:=fun _=>False) Kn (fun _ _ h=>h)) ab ab).mono ?_;rintro e ib ⟨b6,rfl,aV,O,h,he⟩;obtain⟨j,rfl⟩:=JV aV;have bc:j<3:=ab;have t:Fr (fun b=>b=J.heap.size+1) ia ib:=he.fr;have gX:=ai h (gW.2.trans t);have hR:=ad (gL.on t ab);have hw:=ad (hv.on t ab);refine dW hK (he.fr) ?_;clear hK K;clear h he t aV O
    iterate 2 refine tf ?_
    have aF:=And.intro gX.1 (And.intro gX.2 (And.intro hw.o (And.intro (show a3≤wr.heap.size by omega) bc)));revert aF;generalize cs.heap.size=aX;exact wR
   ·
    refine aE rfl (fun K hK=>?_) rfl;go_simp;refine(aW _ (J.heap.size+1) A n c l 3 (aS.1.cG (M:=fun _=>False) Kn (fun _ _ h=>h)) ab ab).mono ?_;rintro e c0 ⟨b6,rfl,aV,O,h,he⟩;obtain⟨j,rfl⟩:=JV aV;have bc:j<3:=ab;have t:Fr (fun b=>b=J.heap.size+1) cs c0:=he.fr;have bW:=ai h (aS.2.trans t);have hx:=ad (gZ.on t ab);refine dW hK (he.fr) ?_;clear hK K;clear h he t aV O;refine tf ?_;refine ao ?_;refine eZ ?_;refine bg (fun V=>Ext c0 V∧af V c0.heap.size 5 #[.int .u8 bv]) ⟨Kn.alloc _,Ko⟩ (fun ir hV=>?_);have gY:=ai (bW.1.cG hV.1 fun _ _ h=>h) (bW.2.trans (hV.1.mono fun _ h=>h.elim));have h7:wr.heap.size≤c0.heap.size:=bW.2.size;have hn:=ad hV.2;have hy:=ad (hx.ak hV.1);clear hV;obtain⟨e0,a5,aZ⟩:=hn.two;refine cf (v:=?_) rfl (by rfl) (fun V hV=>?_) ?_;rotate_left
    ·have bU:=e4 V (c0.heap.size) bv ((hV.cell aZ ab).trans (e0 0))
     (go_simp<;>with_reducible rfl)
    try simp only[PU]
    clear e0 a5 aZ
    iterate 2 refine tf ?_
    have aF:=And.intro gY.1 (And.intro gY.2 (And.intro hy.o (And.intro (show a3≤wr.heap.size by omega) bc)));revert aF;generalize c0.heap.size=aX;exact wR
 ·
  exact Az
 ):p:=h
end BL
open BL in
theorem Iv(J:World)(gM:Value)(Q:Exit→Act→World→Prop)(hQ0:∀c a d v w,Q (.panic c) (a.put d v) w→Q (.panic c) a w)
  (s:∀bp a7,(∀a ac,Code.wp prog (m5 32) (Exit.then a7 Q) a ac→bp a ac)→(∀a ac,Code.wp prog (FV 42) Q a ac→a7 a ac)→DU J gM (Exit.then a7 Q) bp)
  (K:Act→World→Prop) (hK:∀a ac,Code.wp prog (m5 19) Q a ac→K a ac):DT J gM Q K:=by
 unfold DT;intro ic A n c l ar MA mn mc M GA gn gc G o u hi hj gC gJ u8 gF eH cc gd ax bL b9 u16 gj gk eJ eK eM eP eQ eR eS eT eU eV eW eX eY u32 e3 e5 e6 e7 e8 e9 fa fb fd fe ff fh fi fj fk fl fm fo fp fq fr fs ft fu fv fw fx fy fz fA fB u64 fC fD fE fF fG fH fI fL fM fN fO fP fQ fR fS fT fU fV fW fX fY fZ f3 f4 f5 f6 f7 f8 f9 ga gb ge gf gg gh H ag aI aR a6 a9 bf bh bi bo bx bK bP bQ bY bZ b1 b2 b3 cb cd cj ck cm co cp cq cr ct cu cv cx cy cz cA cC cD cE cF cG cH cI cJ cK cL cM cN cO cP cQ cR cS cT cU cV cW cX cY cZ c4 c5 c6 c7 c8 c9 da db dd de dg dh di dj dk dl dm dn dp dq dr ds dt du dx dy dB dC dD dE dF dG dH dI dJ dK dM dN dO dP dQ dR dS dT dU dV dX dY dZ d0 d1 d2 d3 d4 d5 d6 d7 d8 d9 ea eb ec ed ee ef eg eh ei ej ek el em en eo ep eq er es et eu ev ew ex ey ez eA eB eC eF eG gl gm go gp gr gs gt gu gv gw gx gy gz gA gB w aY;obtain⟨a2,gP⟩:=aM aY.Iv s;obtain⟨I,g0⟩:∃I,I=w.heap.size:=⟨_,rfl⟩
 rw[←g0] at a2;clear aY s g0;conv=>arg 2;whnf
 conv at hK=>enter [a,w,1,2];whnf
 obtain⟨a0,ap,ak⟩:=a2.blk.two;go_wp2_with(fail);refine(aW w (J.heap.size+1) A n c l 4 a2.src ab ab).mono ?_;rintro e aN ⟨b5,rfl,aJ,bF,h,he⟩;obtain⟨N,rfl⟩:=JV aJ;have g6:N<4:=ab;have gQ:=ad (a2.next h he.fr);clear h he a0 ap ak a2 aJ bF;go_wp2_with(fail);go_loopw [12] (fun cg wr=>∃(i:Nat) (FA:Kr) (fc:Nat) (F:List az),cg=.int .i64 i∧i≤N+1∧yG J I wr A n c l ar MA mn mc M GA gn gc G o u FA i fc F) (fun cg _=>N+1 - (intOf cg).toNat)
 case atStart=>exact⟨0,none,0,[],rfl,ab,gQ.o⟩
 case round=>
  obtain⟨i,FA,fc,F,rfl,al,aY⟩:=hrel;obtain⟨au,rfl⟩:∃au,au=wr:=⟨wr,rfl⟩
  clear gQ;have b4:=ad aY;obtain⟨a0,ap,ak⟩:=aY.blk.two;have ch:F.length=i:=by have:=aY.fs.len;simpa using this
  have hD:=aY.hD;clear aY;by_cases aw:i≤N
  ·have g:(i:Int)≤(N:Int):=ab;have e1:i≤3:=ab;have bU:=fun(W:World) (v:Int)=>kI W v;have hL:∀v,(strOf [byteOf v]).size=1:=fun v=>aG _;go_upto_region 24 with(fail);clear hL;generalize hX:World.alloc _ _=dv;have a4:Ext au dv:=hX▸(Kn.alloc _).alloc _;have g1:af dv (au.heap.size+1) 143 #[.string (⟨#[102]⟩++strOf [byteOf (48+(i:Int))]),.slice none 0 0,.slice none 0 0]:=by
    rw[←hX];exact af.ct _ _ _ (by simp)
   have f2:=b4.src.cG a4 fun _ _ h=>h;have z:=aQ f2 a4 g1;clear hX a4 g1 f2 a0 ap ak;by_cases gI:i=0
   case' pos=>
    have g2:((i:Int) == 0)=true:=by simp;omega
    obtain⟨f0,dw,eN⟩:=z.2.2.two;have c2:=ad gI;clear gI;go_upto_region 26 with(fail);generalize hX:World.setCell _ _ _=Y;have aD:Fr (fun b=>b=au.heap.size+1) dv Y:=hX▸(Fr.refl (fun b=>b=au.heap.size+1) dv).setCell (.inl rfl) _;have il:=b4.blk.lt;have hF:b0 Y (J.heap.size+1) A n c l∧Fr (fun b=>b=J.heap.size+1) au Y∧af Y (au.heap.size+1) 143 #[.string (iJ i),.slice none 0 0,.slice none 0 0]:=by
     refine⟨z.1.cG aD (fun b O h=>ab),(z.2.1.mono fun _ h=>h.elim).eB (aD.below z.2.1.size fun k aj h=>ab),?_⟩;rw[←hX,c2.o];exact z.2.2.aC 0 _
    clear hX aD f0 dw eN z
   case' neg=>
    have g2:((i:Int) == 0)=false:=by simp;omega
    have c2:=ad gI;clear gI;go_upto_region 26 with(fail);have hF:b0 dv (J.heap.size+1) A n c l∧Fr (fun b=>b=J.heap.size+1) au dv∧af dv (au.heap.size+1) 143 #[.string (iJ i),.slice none 0 0,.slice none 0 0]:=⟨z.1,z.2.1.mono fun _ h=>h.elim,by have:=z.2.2;rw[CG ab c2.o rfl] at this;exact this⟩
    clear z;revert hF;generalize dv=Y;intro hF
   all_goals
    clear bU;have bX:=ad hF;obtain⟨a0,ap,ak⟩:=(b4.next bX.1 bX.2.1).blk.two;clear hF;go_wp2_with(fail);refine(aW Y (J.heap.size+1) A n c l 3 bX.1 ab ab).mono ?_;rintro e f1 ⟨bE,rfl,aJ,bF,h,he⟩;obtain⟨hg,rfl⟩:=JV aJ;have ci:hg≤2:=ab;have bz:=aQ h (bX.2.1.trans he.fr) (bX.2.2.on he.fr (aH b4.blk.lt));clear h he a0 ap ak bX aJ bF;go_wp2_with(fail);go_loopw [14] (fun g9 bV=>∃(m:Nat) (PA:Kr) (pn pc:Nat) (ps:List (ByteArray×Bool)),g9=.int .i64 m∧m≤2∧pn+m≤2∧(i=0→ps=[])∧(i≠0→ps.map (·.1)++eL m=eL hg)∧b0 bV (J.heap.size+1) A n c l∧Fr (fun b=>b=J.heap.size+1) au bV∧af bV (au.heap.size+1) 143 #[.string (iJ i),.slice PA pn pc,.slice none 0 0]∧Gr (fun _=>False) (au.heap.size+1+1) 174 2 bV PA pn pc (ps.map df)) (fun g9 _=>(intOf g9).toNat)
    case atStart=>exact⟨hg,none,0,0,[],rfl,ci,ab,fun _=>rfl,fun _=>rfl,bz.1,bz.2.1,bz.2.2,Gr.nil _ _ _ _ _⟩
    case round=>
     obtain⟨m,PA,pn,pc,ps,rfl,bN,e2,hb,hc,hF⟩:=hrel;clear bz;have bX:=ad hF;have gG:=ai hb hc;have hB:=b4.next hF.1 hF.2.1;obtain⟨a0,ap,ak⟩:=hB.blk.two;obtain⟨f0,dw,eN⟩:=hF.2.2.1.two;have ho:=ad hB;clear hF hb hc hB;by_cases aw:0<m∧0<i
     ·obtain⟨g7,am⟩:=aw;have q1:decide ((m:Int) > 0)=true:=by simp;omega
      have cB:decide ((i:Int) > 0)=true:=by simp;omega
      have ij:(m:Int)≤2:=ab;have gK:¬J.heap.size+1+1=J.heap.size+1:=ab;have bT:J.heap.size+1+1<wr.heap.size:=ho.blk.lt;clear f0 dw eN;go_upto_region 29 with(fail);exact zl
     ·have dc:(¬0<m)∨((0<m)∧¬0<i):=by
       by_cases ae:0<m
       ·exact .inr ⟨ae,fun h=>aw ⟨ae,h⟩⟩
       ·exact .inl ae
      have hd:∃a8,a8≤2∧ps.map (·.1)=eL a8:=by
       by_cases ae:i=0
       ·exact⟨0,ab,by rw[gG.1 ae];rfl⟩
       ·have aC:m=0:=by
         by_cases aT:0<m
         ·exact absurd ⟨aT,ab⟩ aw
         ·omega
        have aT:=gG.2 ae;rw[aC] at aT;exact⟨hg,ci,by simpa[eL] using aT⟩
      have hT:=ad hd;clear aw hd;rcases dc with q1|⟨q1,cB⟩
      ·
       exact Fa
      ·
       exact Fa
  ·have g:¬(i:Int)≤(N:Int):=ab;go_upto_region 32 with(fail);have fg:=gP.o _ _ (by assumption) (by assumption);unfold DU at fg;exact fg I A n c l ar MA mn mc M GA gn gc G o u FA i fc F au ab b4.o
namespace BM
theorem fK(h:p:=by
 try simp only[J8]
 generalize hX:World.setCell _ _ _=X;have aP:=ad (hX▸bu.o);clear hX bu e0 e1 e2 bl f2 W U;go_wp2_with(fail);go_roundw
 case rel=>exact⟨i+1,bE,F.set i {f with body:=.eA ls},by go_num,ab,aP.o⟩
 case measure=>exact aB
 ):p:=h
end BM
open BM in
theorem Iw(J:World)(gM:Value)(bp a7:Act→World→Prop)(ae:∀a ac,Code.wp prog (m5 32) (Exit.then a7 (bodyPost prog Tryz.f59 (j2 J))) a ac→bp a ac)(aC:∀a ac,Code.wp prog (FV 42) (bodyPost prog Tryz.f59 (j2 J)) a ac→a7 a ac) :
  DU J gM (Exit.then a7 (bodyPost prog Tryz.f59 (j2 J))) bp:=by
 unfold DU;intro I A n c l ar MA mn mc M GA gn gc G o u FA fn fc F hi hj gC gJ u8 gF eH cc gd ax bL b9 u16 gj gk eJ eK eM eP eQ eR eS eT eU eV eW eX eY u32 e3 e5 e6 e7 e8 e9 fa fb fd fe ff fh fi fj fk fl fm fo fp fq fr fs ft fu fv fw fx fy fz fA fB u64 fC fD fE fF fG fH fI fL fM fN fO fP fQ fR fS fT fU fV fW fX fY fZ f3 f4 f5 f6 f7 f8 f9 ga gb ge gf gg gh H ag aI aR a6 a9 bf bh bi bo bx bK bP bQ bY bZ b1 b2 b3 cb cd cj ck cm co cp cq cr ct cu cv cx cy cz cA cC cD cE cF cG cH cI cJ cK cL cM cN cO cP cQ cR cS cT cU cV cW cX cY cZ c4 c5 c6 c7 c8 c9 da db dd de dg dh di dj dk dl dm dn dp dq dr ds dt du dx dy dB dC dD dE dF dG dH dI dJ dK dM dN dO dP dQ dR dS dT dU dV dX dY dZ d0 d1 d2 d3 d4 d5 d6 d7 d8 d9 ea eb ec ed ee ef eg eh ei ej ek el em en eo ep eq er es et eu ev ew ex ey ez eA eB eC eF eG gl gm go gp gr gs gt gu gv gw gx gy gz gA gB w aW aY;obtain⟨fg,rfl,bj⟩:=aY.Iw aW;have a2:=ad bj;clear aY bj;conv=>arg 2;whnf
 conv at ae=>enter [a,w,1,2];whnf
 conv at aC=>enter [a,w,1,2];whnf
 go_wp2_with(fail);go_loopw [16] (fun cg wr=>∃(i L:Nat) (F:List az),cg=.int .i64 i∧i≤fn∧ob J I A n c l ar MA mn mc M GA gn gc G o u fg fn fc wr F i L) (fun cg _=>fn - (intOf cg).toNat)
 case atStart=>exact⟨0,24,F,rfl,ab,a2.o⟩
 case round=>
  obtain⟨i,L,F,rfl,al,aY⟩:=hrel;obtain⟨au,rfl⟩:∃au,au=wr:=⟨wr,rfl⟩
  clear a2;have b4:=ad aY;obtain⟨a0,ap,ak⟩:=aY.blk.two;have bX:=aY.hD;have bN:=aY.own;clear aY;by_cases aw:i<fn
  ·have g:(i:Int)<(fn:Int):=ab;have gI:(0:Int)≤(i:Int):=ab;obtain⟨f,QA,ca,qc,f0,bn,eL,aD,bH,dw,e4,E⟩:=b4.Hx aw;have ce:=aQ aD e4 E;have S:f.params.length=ca:=by have:=e4.1;simpa using this
   clear aD e4 E;have aN:=ad b4.len.2.2;have ah:Gr (fun _=>False) au.heap.size 9 1 (au.alloc (.cells #[] 9)) (some ⟨au.heap.size,0,none⟩) 0 0 []:=Gr.lit (w:=au) (n:=0) (l:=[]) rfl (by rfl) ab (by simp only[D.aI]);have R:Ext au (au.alloc (.cells #[] 9)):=Kn.alloc _;have av:Src (au.alloc (.cells #[] 9)) 1 o gn ((G.map (·.1)).map Value.string):=um (b4.ak R).vs;have P:o=none→gn=0:=fun h=>by subst h;exact Sl.none_ b4.vs
   have bO:au.heap.size≤(au.alloc (.cells #[] 9)).heap.size:=by simp
   have bb:=b4.ng;have bS:=b4.nf.2;go_upto_region 36 with(at_builtin;go_loud (refine ql kd rfl (.tmp 194) (.tmp 195) rfl ah (nh (G.map (·.1))) (by rw[JU,JU];exact aN.o) av P rfl rfl ab ab bO ?_);intro cf c3 bU bC Z bq am;have aE:=ai bC Z;clear bC Z bq am);have bB:Ext au bU:=R.eB (aE.2.below (by simp) fun k aj h=>by
    simp[Value.ownBlock] at h;omega)
   have bC:=aE.1;simp only[J8,Kg] at bC;have ao:=ai bB bC;clear bB bC aE ah R av P bO a0 ap ak
   try simp only[J8]
   go_wp2_with(fail);go_loopw [17,18] (fun aG a1 wr=>∃(j:Nat) (bs:Kr) (on bG:Nat),aG=.slice bs on bG∧a1=.int .i64 j∧j≤ca∧Ext au wr∧Gr (fun _=>False) au.heap.size 9 1 wr bs on bG ((G.map (·.1)++cn (f.params.take j)).map D.s)) (fun _ a1 _=>ca - (intOf a1).toNat)
   case atStart=>exact⟨0,cf,gn,c3,rfl,rfl,ab,ao.1,by simpa[cn] using ao.2⟩
   case round=>
    obtain⟨j,bs,on,bG,rfl,rfl,bc,aF,hG⟩:=hrel;clear ao;have aa:on=(G.map (·.1)).length+(cn (f.params.take j)).length:=by have:=hG.len;simpa using this.symm
    have c2:on≤4:=by
     have cl:=sn (f.params.take j);have m:=aN.o;rw[List.length_take] at cl;rw[JU] at aa;omega
    have aX:=bw (b4.ak aF) aF hG (ce.2.2.aj (aF.block fg bN.2 (fun h=>h)));obtain⟨a4,bD⟩:=aM S aa;have T:=aF.size;clear aF hG S aa;obtain⟨a0,ap,ak⟩:=aX.1.blk.two;obtain⟨e0,e1,e2⟩:=aX.2.2.2;by_cases dc:j<ca
    ·have f1:(j:Int)<(ca:Int):=ab;have ci:(0:Int)≤(j:Int):=ab;obtain⟨pb,gL,q,cs,bF,eI,hm,aU,a3,hc⟩:=Sl.gN (z:=2) (ce.2.1.aj fun b O=>aX.2.1.block b O.2 (fun h=>h)) (fun _=>rfl) dc;obtain rfl:=sJ.1 aU;subst bF;have c0:=hc 0 _ rfl;have c1:=hc 1 _ rfl;simp only[J0] at c0 c1;have dv:=ad hm;clear aU hc a3 hm eI;obtain⟨q1,cB⟩:=q;simp only at c0 c1;have a8:=qF dv.o
     cases cB with
     | true=>
      go_wp2_with(fail);go_roundw
      case rel=>exact⟨j+1,bs,on,bG,rfl,by go_num,ab,aX.2.1,by rw[a8];simpa using aX.2.2.1⟩
      case measure=>exact aB
     | false=>
      have hd:(D.s q1).rep wr (lg (fun _=>False) wr (.slice bs on bG)) [.string q1]:=by simp only[D.rep]
      have df:=ad hd;clear hd;go_wp2_with(at_builtin;refine bR kd rfl (.tmp 225) (.tmp 239) rfl aX.2.2.1 df.o rfl rfl rfl ab ab T ?_;intro aT b0 bU an ay b8 bJ;have bW:=ai an ay;clear an ay b8 bJ);have N:∀b,(Value.slice bs on bG).ownBlock=some b→au.heap.size≤b:=fun b O=>(aX.2.2.1.lt O).1;have aS:Ext au bU:=aX.2.1.eB (bW.2.below T fun k aj h=>by have:=N k h;omega);have br:=ad aS;clear N aS;go_roundw
      case rel=>exact⟨j+1,aT,on+1,b0,rfl,by go_num,ab,br.o,by rw[a8];simpa[JX,←List.append_assoc] using bW.1⟩
      case measure=>exact aB
    ·obtain rfl:j=ca:=ab;have eN:f.params.take j=f.params:=JY (aH a4.o);have s:=aX.1.ak Kn.drew;have W:=aX.2.2.2.aj (ac:=wr.drew) rfl;have af:=aX.2.2.1.ak Kn.drew;rw[eN] at af;have U:=s.blk;have bg:=s.own;have eO:(G.map (·.1)++cn f.params).length+L≤60:=by
      have cl:=bD.o;rw[eN] at cl;have m:=s.kr;rw[JS];omega
     have y:=s.la.free (f:=f) (JT ce.1);have aJ:=s.kr;have df:=bw s af eO y;clear s af eO y eN;go_upto_region 41 with(fail);clear e0 e1 e2 a0 ap ak;refine kF (RW (J.heap.size+1) (.pointer (some ⟨J.heap.size+1,0,none⟩)) (.slice GA gn gc) (.slice MA mn mc) (.slice (some ⟨fg,0,none⟩) fn fc) (.bool ar)) [(0,3),(1,3),(2,3),(3,3),(4,0),(5,3),(6,3),(7,3),(8,3),(9,3),(10,3),(11,0),(12,3),(13,3),(14,0),(15,3),(16,1),(17,3),(18,3),(19,2)] (by kernel_rfl) (by kernel_rfl) (fun w=>RW.refl w) (fun _ _ _ h k=>h.trans k) (fun _ _ d _ _ h=>by cases d<;>exact h) ?_
     iterate 4 refine pf ?_
     refine bI (v:=?_) rfl (by rfl) (fun V hV=>?_) ?_;rotate_left
     ·obtain⟨bT,bV⟩:=hV.wb _ U;obtain⟨hVc,hVf,eO⟩:=bV.two
      (go_simp<;>with_reducible rfl)
     try simp only[PU]
     iterate 6 refine pf ?_
     refine bI (v:=?_) rfl (by rfl) (fun V hV=>?_) ?_;rotate_left
     ·obtain⟨bT,bV⟩:=hV.wb _ U;obtain⟨hVc,hVf,eO⟩:=bV.two
      (go_simp<;>with_reducible rfl)
     try simp only[PU]
     iterate 2 refine pf ?_
     refine bI (v:=?_) rfl (by rfl) (fun V hV=>?_) ?_;rotate_left
     ·obtain⟨e0,e1,e2⟩:=W.aj (hV.fr.block fg bg.2 ab)
      (go_simp<;>with_reducible rfl)
     try simp only[PU]
     refine pf ?_;refine aK rfl (fun K hK=>?_);go_simp;refine(DG ⟨J.heap.size+1,J.heap.size+1+1,A,n,c,l,GA,gn,gc,MA,mn,mc,some ⟨fg,0,none⟩,fn,fc,M,F,ar⟩ L (G.map (·.1)++cn f.params) (a5 ⟨G,M,F⟩++f.params.map (·.1)) bs on bG f.name f.params QA j qc (.slice f0 bn eL) wr.drew df.1.wr (df.2.1.sl (fun b _ h=>h.elim) (fun b O aL=>⟨O,fun hm=>by rcases hm with hm|hm<;>(simp only at hm;omega)⟩)) df.2.2.1 (fun k aj=>df.2.2.2 k ab) ((ce.2.1.aj fun b O=>(aX.2.1.trans Kn.drew).block b O.2 (fun h=>h)).mono fun b O=>⟨by have:=O.2;have:=T;show b<wr.heap.size;omega,fun hm=>by have:=O.1;rcases hm with hm|hm<;>(simp only at hm;omega)⟩) bH).mono ?_;rintro e aO ⟨ls,bE,ch,b7,b5,rfl,dz,bJ,bz,ba,aZ⟩;have r:¬(fg=J.heap.size+1∨fg=J.heap.size+1+1):=ab;have aV:=r;obtain⟨cur,t⟩:=df.1.fs.H6;have bl:=(t.on aZ r).frozen;have f2:=(t.on aZ r).lt;obtain⟨e0,e1,e2⟩:=W.aj (aZ.block fg bg.2 r);have bu:=ad (df.1.body ce.1 ba aZ dz bJ bz);refine dW hK (⟨aZ,fun _ _=>⟨bE,ba.blk⟩⟩) ?_;clear hK K;clear dz bJ bz ba aZ t r aV
     iterate 2 refine pf ?_
     exact fJ
  ·have g:¬(i:Int)<(fn:Int):=ab;have Q:i=fn:=ab;have bm:=ad Q;clear Q;have gi:=b4.res;obtain⟨bv,bd,be⟩:=gi.two;clear gi;go_wp2_with(fail);generalize b6:World.setCell _ _ _=Y;have aY:=b4.o;rw[bm.o] at aY;obtain⟨bt,bA,bk⟩:=dL (M:=fun _=>False) [.slice GA gn gc,.slice MA mn mc,.slice (some ⟨fg,0,none⟩) fn fc] (by rfl) aY.res (w:=J) aY.ext (JQ _) b6;have bM:=ad (aY.IB bk);clear bv bd be b6 aY bk a0 ap ak;obtain⟨bv,bd,be⟩:=bt.two;refine Km (v:=.agg #[.slice GA gn gc,.slice MA mn mc,.slice (some ⟨fg,0,none⟩) fn fc]) (by simp[results,Tryz.results59,go_sem,bv]) rfl ?_;exact bM.o
end Go.Proofs.YtbkhhfajcgkpgaaGreat

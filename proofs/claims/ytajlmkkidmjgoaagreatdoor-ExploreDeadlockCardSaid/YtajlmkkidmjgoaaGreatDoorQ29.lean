/- Part 29 of the proof. No condition of its own. -/
import Derived.Test.YtajlmkkidmjgoaaGreatDoorQ21
import Derived.Test.YtajlmkkidmjgoaaGreatDoorQ28
namespace Go.Proofs.YtajlmkkidmjgoaaGreatDoor
open Go.RowKit Go.Proofs.Tryz
set_option maxRecDepth 1000000
set_option maxHeartbeats 25600000
set_option linter.unusedVariables false
variable{p:Prop}
namespace zy
theorem gj(h:p:=by
 refine cr ?_;generalize hX:World.setCell _ _ _=X;have aA:=cT hX;have bQ:an X S.heap.size 153 #[.int .i64 1,.string (gR L),.int .i64 z.aZ,.int .i64 z.numOf,.string z.bg,.slice cz b7 zc,.string ⟨#[]⟩,.slice none 0 0,.slice none 0 0,.slice none 0 0,.slice none 0 0]:=by
  have ac:=ap.s.aI 1 (.string (⟨#[118]⟩++strOf [byteOf r,byteOf t]));rw[tj ad aJ.1 aJ.2] at ac;rw[<-hX]
  try rw[tj ad aJ.1 aJ.2]
  exact ac
 have H:=ap.c.fresh bH.1 aA λb O=>ad;have bW:Sl X (λb=>S.heap.size<b/\b<X.heap.size) cz b7 (z.args.map a7):=(cL.al λb O=>aA.block b O.2 (aC O.1)).mono λb O=>⟨O.1,Hy O.2 aA.size⟩
 have j:∀b,(Value.slice av bq ax).ownBlock=some b->B<=b/\b<S.heap.size:=λb O=>bH.2.2.2.1.one.lt O;have aO:Gr (λ_=>False) B 9 1 X av bq ax (a1.map D.s):=((Gr.strs (Q:=λ_=>False) bH.2.2.2.1.one).dh ap.c.fr λb O hl=>⟨λh=>h,bH.2.2.2.2.2 b O⟩).cU aA.size λb al hp=>aA.block b al (hp.elim (λh=>h.elim) λhp=>by have:=j b hp;omega);have aV:=iK bQ H bW aO bi bs aA.size;have cs:=ae j;have cA:S.heap.size<X.heap.size:=bQ.lt;have cb:B<=X.heap.size:=ad;clear hX aA bQ H bW aO j bi bs ap cL d0 aP aQ;obtain⟨d0,aP,aQ⟩:=aV.1.two;go_wp2_with(at_builtin;refine bN j2 rfl (.tmp 114) (.tmp 117) rfl aV.2.2.2.1 (sT.2 rfl) rfl rfl rfl ad ad cb ?_;intro dX co cG bb az b5 cf;have du:=aL bb az b5;clear bb az b5 cf);obtain⟨bz,aE,bB⟩:=du.o;obtain⟨bQ,H,bW,aO,bi,bs,cJ⟩:=aV.o;have j:=cs.o;have m:∀b,(Value.slice bw on bL).ownBlock=some b->B<=b/\b<S.heap.size:=λb O=>bH.2.2.2.1.two.lt O;have aB:=bH.2.2.2.1.ne;have aM:∀b,(Value.slice dX (bq+1) co).ownBlock=some b->(b<S.heap.size/\(Value.slice av bq ax).ownBlock=some b)\/X.heap.size<=b:=λb O=>(bB b O).imp (λh=>⟨(j b h).2,h⟩) id;have a2:¬(Value.slice av bq ax).ownBlock=some S.heap.size:=λh=>by have:=(j _ h).2;omega
 have cB:=aE.size;have bX:L<=24:=H.le
 try refine hN _ _ ?_
 unfold la;refine⟨dX,bq+1,co,bw,on,bL,?_⟩
 iterate 240 apply Exists.intro
 refine⟨?_,rfl⟩;refine⟨a1++[gR L],[],.set true (gR L) z,L,_,(nS.mk H.src H.blk (bD.2.2.trans H.fr) H.le).fresh bD.1 aE (λb O=>by have:=(j b O).1;omega),(bH.2.1.on H.fr (λh=>by rcases h with h|h<;>(simp only at h;omega))).on aE (λh=>by have:=(j _ h).1;omega),⟨?_,?_,λb O h=>?_⟩,bQ.on aE a2,?_,?_,?_,?_,Hx _,?_,by simp;omega,ad⟩
 .rw[Ig,Ie,Iy];have:=Gr.strs (l:=a1++[gR L]) (Q:=λb=>B<=b/\(Value.slice bw on bL).ownBlock≠some b) (by rw[Ig,Ie,Iy];exact bz)
  rwa [Ig,Ie,Iy] at this
 .rw[IB];have ac:Gr (λb=>(B<=b/\(Value.slice av bq ax).ownBlock≠some b)/\b<S.heap.size) B 153 11 S bw on bL (ls.map a3):=bH.2.2.2.1.two.mono λb O hp=>⟨hp,O⟩
  have J:=ac.dh H.fr λb O hl=>⟨λh=>by have:=bH.2.2.2.2.2 b O;have:=h.1.1;omega,bH.2.2.2.2.2 b O⟩
  have aR:=J.cU aE.size λb al hp=>aE.block b al (λbC=>hp.elim (λh=>h.1.2 bC) (λh=>aB b bC h));exact aR.mono λb _ hp=>⟨hp.1.1,λh=>by
   rcases aM b h with bv|bv
   .exact hp.1.2 bv.2
   .have:=hp.2;omega⟩
 .rcases aM b O with bv|bv
  .exact aB b bv.2 h
  .have:=(m b h).2;omega
 .refine eg (aW.2 ⟨cz,b7,zc,rfl,bs,?_⟩) km (Sl.bH _) (Hx _) (Sl.bH _) (Hx _) (Sl.bH _) (Hx _);refine(bW.al λb O=>aE.block b O.2 λh=>by have:=(j b h).2;have:=O.1;omega).mono λb O=>⟨⟨by have:=O.1;omega,λh=>?_⟩,by have:=O.2;omega,λh=>by have:=(m b h).2;have:=O.1;omega⟩
  have ac:=O.1;have J:=O.2;rcases aM b h with bv|bv<;>omega
 .exact rT.2 ⟨Cl ad,ce.2.1 L ad,ds ce.1 2 z bi⟩
 .intro n hn;rw[IC,all_cons] at hn;simp only[ay.all,ak.ez,ak.all,IB,ID] at hn;exact⟨L,Hx _,ad,hn⟩
 .rw[IC,rv];simp only[ay.num];omega
 .intro y a4;rw[IC,qd,<-List.append_assoc];rcases Ii.1 a4 with a4|a4
  .exact Ii.2 (.inl (ce.1 a4))
  .simp only[ID] at a4;subst a4;exact Ii.2 (.inr (by simp[decls,ay.decl]))
 ):p:=h
theorem lg(h:p:=by
 have cv:L<=24:=bP.1.le;have gM:¬(wb=s\/wb=S.heap.size):=ad;have cw:S.heap.size<wr.heap.size:=bP.2.2.lt;have cn:Int.tmod (L:Int) 26=(L:Int):=Int.tmod_eq_of_lt ad ad;have W:Int.tdiv (L:Int) 26=0:=Int.tdiv_eq_zero_of_lt ad ad;go_upto_region 19 with(fail);refine sU (λb=>b=s\/b=S.heap.size) [26] (.free 0 (.free 1 (.free 3 (.free 4 (.free 5 (.held 6 (.free 7 (.free 8 (.free 9 (.free 10 (.free 11 (.free 12 (.held 13 (.free 14 (.free 15 (.free 16 (.free 17 (.free 21 (.pick [2,18] (λi=>bif i == 2 then .pick [18,22] (λi=>bif i == 18 then .held 19 (.free 20 (.pick [22] (λ_=>.free 23 (.pick [24] (λ_=>.free 25 (.pick [26] (λ_=>.stop))))))) else .free 23 (.pick [18,24] (λi=>bif i == 18 then .held 19 (.free 20 (.pick [24] (λ_=>.free 25 (.pick [26] (λ_=>.stop))))) else .pick [18] (λ_=>.held 19 (.free 20 (.free 25 (.pick [26] (λ_=>.stop)))))))) else .held 19 (.free 20 (.pick [2] (λ_=>.pick [22] (λ_=>.free 23 (.pick [24] (λ_=>.free 25 (.pick [26] (λ_=>.stop)))))))))))))))))))))))))))) ?_
 iterate 5 refine tf ?_
 refine rL ?_
 iterate 6 refine tf ?_
 refine rL ?_
 iterate 5 refine tf ?_
 have aD:IS (pQ ⟨s,wb,bu,bM,br,sl,GA,gn,gc,MA,mn,mc,FA,fn,fc,M,F,ar⟩ S wr L #[.int .i64 5,.string ⟨#[]⟩,.int .i64 0,.int .i64 0,.string ⟨#[]⟩,.slice none 0 0,.string ⟨#[]⟩,.slice none 0 0,.slice none 0 0,.slice none 0 0,.slice none 0 0] wr):=ae ⟨bP.1,bP.2.2,IK⟩;clear aI aj af be am aH d0 aP aQ;generalize bx:IntKind.u8.wrap (IntKind.i64.wrap (97+(L:Int)))=r;generalize bE:IntKind.u8.wrap (IntKind.i64.wrap (97+Int.tmod (IntKind.i64.wrap 0) 26))=t;have aJ:=ai bx bE;clear bx bE;have bF:(strOf [byteOf r,byteOf t]).size=2:=aK _;refine lM (P:=?pO) (ops:=?F9) (Q:=?Gb) (R:=?Gc) (tails:=?Gh) (rest:=.free 25 (.pick [26] (λ_=>.stop))) (aa:=?FM)
  (C:=λ(a8:Nat) (Y:Value) gm=>∃(z:VE) (cz:IP) (b7 zc:Nat),Y=.agg #[.int .i64 z.aZ,.int .i64 z.numOf,.string z.bg,.slice cz b7 zc]/\pQ ⟨s,wb,bu,bM,br,sl,GA,gn,gc,MA,mn,mc,FA,fn,fc,M,F,ar⟩ S wr L #[.int .i64 1,.string ⟨#[]⟩,.int .i64 z.aZ,.int .i64 z.numOf,.string z.bg,.slice cz b7 zc,.string ⟨#[]⟩,.slice none 0 0,.slice none 0 0,.slice none 0 0,.slice none 0 0] gm/\Sl gm (λb=>S.heap.size<b/\b<gm.heap.size) cz b7 (z.args.map a7)/\z.src a1 2/\b7<=zc) (λkey=>?Bx) ?Bm
 case Bx=>
  refine a5 ?_ ?_
  ·
   refine aG rfl (λK hK=>?_) rfl;go_simp;refine(jk ⟨s,wb,bu,bM,br,sl,GA,gn,gc,MA,mn,mc,FA,fn,fc,M,F,ar⟩ L a1 av bq ax _ ((aD.c.aj aZ (IK.drew)).wr bH.1) ((Sl.dh bH.2.2.2.2.1 (aD.c.aj aZ (IK.drew)).fr).mono λb O=>⟨O.1,λh=>O.2 (.inl h)⟩) ad).mono ?_;rintro e v1 ⟨x,cy,cp,cD,rfl,hx,ah,bf,h,he⟩
   try simp only at h he
   have au:Fr (λb=>b=s) wr v1:=Fr.aJ he;have I:=ae (aD.call aZ ck h au);have aV:=ai hx ah;have ba:=ae ((bf.mono λb O=>(⟨by have:=aD.s.lt;have:=O.1;have:wr.drew.heap.size=wr.heap.size:=rfl;omega,O.2⟩:S.heap.size<b/\b<v1.heap.size)));refine dA hK (he.mono λ_ h=>.inl h) ?_;clear hK K;clear hx ah bf h he au;refine a5 ?_ ?_
   ·
    refine dS ?_;refine bh (λV=>Ext v1 V/\an V v1.heap.size 5 #[.int .u8 r,.int .u8 t]) ⟨IK.alloc _,IL⟩ (λv2 hV=>?_);have bl:=ae (I.aj aZ hV.1);have aU:=ae hV.2;have cW:S.heap.size<v1.heap.size:=I.s.lt;have b3:=ae ((ba.al λb O=>hV.1.block b O.2 λh=>h).mono λb O=>(⟨O.1,Hy O.2 hV.1.size⟩:S.heap.size<b/\b<v2.heap.size));clear hV;obtain⟨e0,bn,a0⟩:=aU.two;refine cd (v:=?_) rfl (by rfl) (λV hV=>?_) ?_;rotate_left
    .have bG:=lY V v1.heap.size r t ((hV.cell a0 ad).trans (e0 0)) ((hV.cell a0 ad).trans (e0 1))
     (go_simp<;>with_reducible rfl)
    try simp only[PU]
    clear e0 bn a0;refine tf ?_;refine aq ?_;obtain⟨d0,aP,aQ⟩:=bl.s.two;refine aG rfl (λK hK=>?_) rfl;go_simp;refine dA hK (IK.setCell (.inl (.inr rfl)) _) ?_;clear hK K;refine bh (λV=>pQ ⟨s,wb,bu,bM,br,sl,GA,gn,gc,MA,mn,mc,FA,fn,fc,M,F,ar⟩ S wr L #[.int .i64 1,.string ⟨#[]⟩,.int .i64 0,.int .i64 0,.string ⟨#[]⟩,.slice none 0 0,.string ⟨#[]⟩,.slice none 0 0,.slice none 0 0,.slice none 0 0,.slice none 0 0] V/\Fr (λb=>b=S.heap.size) v2 V) ⟨by exact bl.aI bH.1 0 _,by exact(Fr.refl (λb=>b=S.heap.size) v2).setCell (.inl rfl) _⟩ (λao hV=>?_);have bm:=ae hV.1;have b4:=ae ((b3.al λb O=>hV.2.block b O.2 (aC O.1)).mono λb O=>(⟨O.1,Hy O.2 hV.2.size⟩:S.heap.size<b/\b<ao.heap.size));have bZ:=ae (aU.on hV.2 ad);clear hV d0 aP aQ;refine tf ?_;refine aq ?_;obtain⟨d0,aP,aQ⟩:=bm.s.two;refine aG rfl (λK hK=>?_) rfl;go_simp;refine dA hK ((((IK.setCell (.inl (.inr rfl)) _).setCell (.inl (.inr rfl)) _).setCell (.inl (.inr rfl)) _).setCell (.inl (.inr rfl)) _) ?_;clear hK K;refine bh (λV=>pQ ⟨s,wb,bu,bM,br,sl,GA,gn,gc,MA,mn,mc,FA,fn,fc,M,F,ar⟩ S wr L #[.int .i64 1,.string ⟨#[]⟩,.int .i64 x.aZ,.int .i64 x.numOf,.string x.bg,.slice cy cp cD,.string ⟨#[]⟩,.slice none 0 0,.slice none 0 0,.slice none 0 0,.slice none 0 0] V/\Fr (λb=>b=S.heap.size) ao V) ⟨by exact(((bm.aI bH.1 2 _).aI bH.1 3 _).aI bH.1 4 _).aI bH.1 5 _,by exact((((Fr.refl (λb=>b=S.heap.size) ao).setCell (.inl rfl) _).setCell (.inl rfl) _).setCell (.inl rfl) _).setCell (.inl rfl) _⟩ (λv4 hV=>?_)
    have ci:=ae hV.1;have b6:=ae ((b4.al λb O=>hV.2.block b O.2 (aC O.1)).mono λb O=>(⟨O.1,Hy O.2 hV.2.size⟩:S.heap.size<b/\b<v4.heap.size));have cu:=ae (bZ.on hV.2 ad);clear hV d0 aP aQ;have a9:=And.intro ci.o (And.intro b6.o aV.o);have aT:∃(z:VE) (cz:IP) (b7 zc:Nat),(Value.agg #[.int .i64 x.aZ,.int .i64 x.numOf,.string x.bg,.slice cy cp cD])=.agg #[.int .i64 z.aZ,.int .i64 z.numOf,.string z.bg,.slice cz b7 zc]/\pQ ⟨s,wb,bu,bM,br,sl,GA,gn,gc,MA,mn,mc,FA,fn,fc,M,F,ar⟩ S wr L #[.int .i64 1,.string ⟨#[]⟩,.int .i64 z.aZ,.int .i64 z.numOf,.string z.bg,.slice cz b7 zc,.string ⟨#[]⟩,.slice none 0 0,.slice none 0 0,.slice none 0 0,.slice none 0 0] v4/\Sl v4 (λb=>S.heap.size<b/\b<v4.heap.size) cz b7 (z.args.map a7)/\z.src a1 2/\b7<=zc:=⟨x,cy,cp,cD,rfl,a9⟩
    revert aT;generalize v1.heap.size=a8;exact vD
   ·
    obtain⟨d0,aP,aQ⟩:=I.s.two;refine aG rfl (λK hK=>?_) rfl;go_simp;refine dA hK (IK.setCell (.inl (.inr rfl)) _) ?_;clear hK K;refine bh (λV=>pQ ⟨s,wb,bu,bM,br,sl,GA,gn,gc,MA,mn,mc,FA,fn,fc,M,F,ar⟩ S wr L #[.int .i64 1,.string ⟨#[]⟩,.int .i64 0,.int .i64 0,.string ⟨#[]⟩,.slice none 0 0,.string ⟨#[]⟩,.slice none 0 0,.slice none 0 0,.slice none 0 0,.slice none 0 0] V/\Fr (λb=>b=S.heap.size) v1 V) ⟨by exact I.aI bH.1 0 _,by exact(Fr.refl (λb=>b=S.heap.size) v1).setCell (.inl rfl) _⟩ (λaX hV=>?_);have U:=ae hV.1;have bg:=ae ((ba.al λb O=>hV.2.block b O.2 (aC O.1)).mono λb O=>(⟨O.1,Hy O.2 hV.2.size⟩:S.heap.size<b/\b<aX.heap.size));clear hV d0 aP aQ;refine tf ?_;refine a5 ?_ ?_
    ·
     refine dS ?_;refine bh (λV=>Ext aX V/\an V aX.heap.size 5 #[.int .u8 r,.int .u8 t]) ⟨IK.alloc _,IL⟩ (λv6 hV=>?_);have bo:=ae (U.aj aZ hV.1);have a6:=ae hV.2;have cW:S.heap.size<aX.heap.size:=U.s.lt;have b8:=ae ((bg.al λb O=>hV.1.block b O.2 λh=>h).mono λb O=>(⟨O.1,Hy O.2 hV.1.size⟩:S.heap.size<b/\b<v6.heap.size));clear hV;obtain⟨e0,bn,a0⟩:=a6.two;refine cd (v:=?_) rfl (by rfl) (λV hV=>?_) ?_;rotate_left
     .have bG:=lY V aX.heap.size r t ((hV.cell a0 ad).trans (e0 0)) ((hV.cell a0 ad).trans (e0 1))
      (go_simp<;>with_reducible rfl)
     try simp only[PU]
     clear e0 bn a0;refine tf ?_;refine aq ?_;obtain⟨d0,aP,aQ⟩:=bo.s.two;refine aG rfl (λK hK=>?_) rfl;go_simp;refine dA hK ((((IK.setCell (.inl (.inr rfl)) _).setCell (.inl (.inr rfl)) _).setCell (.inl (.inr rfl)) _).setCell (.inl (.inr rfl)) _) ?_;clear hK K;refine bh (λV=>pQ ⟨s,wb,bu,bM,br,sl,GA,gn,gc,MA,mn,mc,FA,fn,fc,M,F,ar⟩ S wr L #[.int .i64 1,.string ⟨#[]⟩,.int .i64 x.aZ,.int .i64 x.numOf,.string x.bg,.slice cy cp cD,.string ⟨#[]⟩,.slice none 0 0,.slice none 0 0,.slice none 0 0,.slice none 0 0] V/\Fr (λb=>b=S.heap.size) v6 V) ⟨by exact(((bo.aI bH.1 2 _).aI bH.1 3 _).aI bH.1 4 _).aI bH.1 5 _,by exact((((Fr.refl (λb=>b=S.heap.size) v6).setCell (.inl rfl) _).setCell (.inl rfl) _).setCell (.inl rfl) _).setCell (.inl rfl) _⟩ (λbj hV=>?_);have cl:=ae hV.1;have b9:=ae ((b8.al λb O=>hV.2.block b O.2 (aC O.1)).mono λb O=>(⟨O.1,Hy O.2 hV.2.size⟩:S.heap.size<b/\b<bj.heap.size));have cx:=ae (a6.on hV.2 ad);clear hV d0 aP aQ;have a9:=And.intro cl.o (And.intro b9.o aV.o)
     have aT:∃(z:VE) (cz:IP) (b7 zc:Nat),(Value.agg #[.int .i64 x.aZ,.int .i64 x.numOf,.string x.bg,.slice cy cp cD])=.agg #[.int .i64 z.aZ,.int .i64 z.numOf,.string z.bg,.slice cz b7 zc]/\pQ ⟨s,wb,bu,bM,br,sl,GA,gn,gc,MA,mn,mc,FA,fn,fc,M,F,ar⟩ S wr L #[.int .i64 1,.string ⟨#[]⟩,.int .i64 z.aZ,.int .i64 z.numOf,.string z.bg,.slice cz b7 zc,.string ⟨#[]⟩,.slice none 0 0,.slice none 0 0,.slice none 0 0,.slice none 0 0] bj/\Sl bj (λb=>S.heap.size<b/\b<bj.heap.size) cz b7 (z.args.map a7)/\z.src a1 2/\b7<=zc:=⟨x,cy,cp,cD,rfl,a9⟩
     revert aT;generalize aX.heap.size=a8;exact vD
    ·
     obtain⟨d0,aP,aQ⟩:=U.s.two;refine aG rfl (λK hK=>?_) rfl;go_simp;refine dA hK ((((IK.setCell (.inl (.inr rfl)) _).setCell (.inl (.inr rfl)) _).setCell (.inl (.inr rfl)) _).setCell (.inl (.inr rfl)) _) ?_;clear hK K;refine bh (λV=>pQ ⟨s,wb,bu,bM,br,sl,GA,gn,gc,MA,mn,mc,FA,fn,fc,M,F,ar⟩ S wr L #[.int .i64 1,.string ⟨#[]⟩,.int .i64 x.aZ,.int .i64 x.numOf,.string x.bg,.slice cy cp cD,.string ⟨#[]⟩,.slice none 0 0,.slice none 0 0,.slice none 0 0,.slice none 0 0] V/\Fr (λb=>b=S.heap.size) aX V) ⟨by exact(((U.aI bH.1 2 _).aI bH.1 3 _).aI bH.1 4 _).aI bH.1 5 _,by exact((((Fr.refl (λb=>b=S.heap.size) aX).setCell (.inl rfl) _).setCell (.inl rfl) _).setCell (.inl rfl) _).setCell (.inl rfl) _⟩ (λbk hV=>?_);have bt:=ae hV.1;have ca:=ae ((bg.al λb O=>hV.2.block b O.2 (aC O.1)).mono λb O=>(⟨O.1,Hy O.2 hV.2.size⟩:S.heap.size<b/\b<bk.heap.size));clear hV d0 aP aQ;refine aq ?_;refine dS ?_;refine bh (λV=>Ext bk V/\an V bk.heap.size 5 #[.int .u8 r,.int .u8 t]) ⟨IK.alloc _,IL⟩ (λaY hV=>?_);have cm:=ae (bt.aj aZ hV.1);have b1:=ae hV.2;have cW:S.heap.size<bk.heap.size:=bt.s.lt;have ch:=ae ((ca.al λb O=>hV.1.block b O.2 λh=>h).mono λb O=>(⟨O.1,Hy O.2 hV.1.size⟩:S.heap.size<b/\b<aY.heap.size));clear hV;obtain⟨e0,bn,a0⟩:=b1.two;refine cd (v:=?_) rfl (by rfl) (λV hV=>?_) ?_;rotate_left
     .have bG:=lY V bk.heap.size r t ((hV.cell a0 ad).trans (e0 0)) ((hV.cell a0 ad).trans (e0 1))
      (go_simp<;>with_reducible rfl)
     try simp only[PU]
     clear e0 bn a0;refine tf ?_;have a9:=And.intro cm.o (And.intro ch.o aV.o);have aT:∃(z:VE) (cz:IP) (b7 zc:Nat),(Value.agg #[.int .i64 x.aZ,.int .i64 x.numOf,.string x.bg,.slice cy cp cD])=.agg #[.int .i64 z.aZ,.int .i64 z.numOf,.string z.bg,.slice cz b7 zc]/\pQ ⟨s,wb,bu,bM,br,sl,GA,gn,gc,MA,mn,mc,FA,fn,fc,M,F,ar⟩ S wr L #[.int .i64 1,.string ⟨#[]⟩,.int .i64 z.aZ,.int .i64 z.numOf,.string z.bg,.slice cz b7 zc,.string ⟨#[]⟩,.slice none 0 0,.slice none 0 0,.slice none 0 0,.slice none 0 0] aY/\Sl aY (λb=>S.heap.size<b/\b<aY.heap.size) cz b7 (z.args.map a7)/\z.src a1 2/\b7<=zc:=⟨x,cy,cp,cD,rfl,a9⟩
     revert aT;generalize bk.heap.size=a8;exact vD
  ·
   refine dS ?_;refine bh (λV=>Ext wr V/\an V wr.heap.size 5 #[.int .u8 r,.int .u8 t]) ⟨(IK.alloc _).drew,IL⟩ (λv10 hV=>?_);have k:=ae (aD.aj aZ hV.1);have Z:=ae hV.2;have cW:S.heap.size<wr.heap.size:=aD.s.lt;clear hV;obtain⟨e0,bn,a0⟩:=Z.two;refine cd (v:=?_) rfl (by rfl) (λV hV=>?_) ?_;rotate_left
   .have bG:=lY V wr.heap.size r t ((hV.cell a0 ad).trans (e0 0)) ((hV.cell a0 ad).trans (e0 1))
    (go_simp<;>with_reducible rfl)
   try simp only[PU]
   clear e0 bn a0;refine tf ?_;refine aq ?_;refine aG rfl (λK hK=>?_) rfl;go_simp;refine(jk ⟨s,wb,bu,bM,br,sl,GA,gn,gc,MA,mn,mc,FA,fn,fc,M,F,ar⟩ L a1 av bq ax _ ((k.c.aj aZ IK).wr bH.1) ((Sl.dh bH.2.2.2.2.1 (k.c.aj aZ IK).fr).mono λb O=>⟨O.1,λh=>O.2 (.inl h)⟩) ad).mono ?_;rintro e v11 ⟨x,cy,cp,cD,rfl,hx,ah,bf,h,he⟩
   try simp only at h he
   have u:Fr (λb=>b=s) v10 v11:=he;have ab:=ae (k.call aZ ck h u);have aV:=ai hx ah;have bO:=ae ((bf.mono λb O=>(⟨by have:=k.s.lt;have:=O.1;omega,O.2⟩:S.heap.size<b/\b<v11.heap.size)));have bI:=ae (Z.on u ad);refine dA hK (he.mono λ_ h=>.inl h) ?_;clear hK K;clear hx ah bf h he u;refine aq ?_;obtain⟨d0,aP,aQ⟩:=ab.s.two;refine aG rfl (λK hK=>?_) rfl;go_simp;refine dA hK (IK.setCell (.inl (.inr rfl)) _) ?_;clear hK K;refine bh (λV=>pQ ⟨s,wb,bu,bM,br,sl,GA,gn,gc,MA,mn,mc,FA,fn,fc,M,F,ar⟩ S wr L #[.int .i64 1,.string ⟨#[]⟩,.int .i64 0,.int .i64 0,.string ⟨#[]⟩,.slice none 0 0,.string ⟨#[]⟩,.slice none 0 0,.slice none 0 0,.slice none 0 0,.slice none 0 0] V/\Fr (λb=>b=S.heap.size) v11 V) ⟨by exact ab.aI bH.1 0 _,by exact(Fr.refl (λb=>b=S.heap.size) v11).setCell (.inl rfl) _⟩ (λbY hV=>?_);have ag:=ae hV.1;have bS:=ae ((bO.al λb O=>hV.2.block b O.2 (aC O.1)).mono λb O=>(⟨O.1,Hy O.2 hV.2.size⟩:S.heap.size<b/\b<bY.heap.size));have bK:=ae (bI.on hV.2 ad);clear hV d0 aP aQ;refine tf ?_;refine aq ?_;obtain⟨d0,aP,aQ⟩:=ag.s.two;refine aG rfl (λK hK=>?_) rfl;go_simp;refine dA hK ((((IK.setCell (.inl (.inr rfl)) _).setCell (.inl (.inr rfl)) _).setCell (.inl (.inr rfl)) _).setCell (.inl (.inr rfl)) _) ?_;clear hK K
   refine bh (λV=>pQ ⟨s,wb,bu,bM,br,sl,GA,gn,gc,MA,mn,mc,FA,fn,fc,M,F,ar⟩ S wr L #[.int .i64 1,.string ⟨#[]⟩,.int .i64 x.aZ,.int .i64 x.numOf,.string x.bg,.slice cy cp cD,.string ⟨#[]⟩,.slice none 0 0,.slice none 0 0,.slice none 0 0,.slice none 0 0] V/\Fr (λb=>b=S.heap.size) bY V) ⟨by exact(((ag.aI bH.1 2 _).aI bH.1 3 _).aI bH.1 4 _).aI bH.1 5 _,by exact((((Fr.refl (λb=>b=S.heap.size) bY).setCell (.inl rfl) _).setCell (.inl rfl) _).setCell (.inl rfl) _).setCell (.inl rfl) _⟩ (λbd hV=>?_);have bU:=ae hV.1;have bT:=ae ((bS.al λb O=>hV.2.block b O.2 (aC O.1)).mono λb O=>(⟨O.1,Hy O.2 hV.2.size⟩:S.heap.size<b/\b<bd.heap.size));have cq:=ae (bK.on hV.2 ad);clear hV d0 aP aQ;have a9:=And.intro bU.o (And.intro bT.o aV.o);have aT:∃(z:VE) (cz:IP) (b7 zc:Nat),(Value.agg #[.int .i64 x.aZ,.int .i64 x.numOf,.string x.bg,.slice cy cp cD])=.agg #[.int .i64 z.aZ,.int .i64 z.numOf,.string z.bg,.slice cz b7 zc]/\pQ ⟨s,wb,bu,bM,br,sl,GA,gn,gc,MA,mn,mc,FA,fn,fc,M,F,ar⟩ S wr L #[.int .i64 1,.string ⟨#[]⟩,.int .i64 z.aZ,.int .i64 z.numOf,.string z.bg,.slice cz b7 zc,.string ⟨#[]⟩,.slice none 0 0,.slice none 0 0,.slice none 0 0,.slice none 0 0] bd/\Sl bd (λb=>S.heap.size<b/\b<bd.heap.size) cz b7 (z.args.map a7)/\z.src a1 2/\b7<=zc:=⟨x,cy,cp,cD,rfl,a9⟩
   revert aT;generalize wr.heap.size=a8;exact vD
 case Bm=>
  rintro a8 Y cC ⟨z,cz,b7,zc,rfl,ap,cL,bi,bs⟩;obtain⟨d0,aP,aQ⟩:=ap.s.two;refine tf ?_;exact gY
 ):p:=h
end zy
open zy in
theorem Fe(d bq:Nat):SK 7 d bq:=by
 exact ld
namespace zA
theorem ot(h:p:=by
 exact gE.simple (st:=.ret) ⟨s,wb,bu,bM,br,sl,GA,gn,gc,MA,mn,mc,FA,fn,fc,M,F,ar⟩ aN B ct bV d ps V T ls N L aw bc QA cc qc bR bH.1 dq cj bH.2.2.2.1 ce.1 b0 c2 aS (eK.1.fresh bH.1 aA λb O=>ad) bK (eg lI km (Sl.bH _) (Hx _) (Sl.bH _) (Hx _) (Sl.bH _) (Hx _)) trivial (λn hn=>by simp[ay.all] at hn) (by simp only[ay.num];omega) (Hx _) bD.2.2 bH.2.1
 ):p:=h
theorem lg(h:p:=by
 first
  | subst bE
    have eK:=bP
  | revert bF
    intro bF;have cC:decide ((bq:Int) > 0)=false:=by simp;omega
    have cI:¬(0:Int)<(bq:Int):=ad;clear bF
    have eK:=bP
  | have cA:S.heap.size<wr.heap.size:=bP.2.2.lt
    go_wp2_with(fail);refine(aX wr s bu bM br sl 3 bP.1.src ad ad).mono ?_;rintro e wr ⟨cm,rfl,bg,bo,h,he⟩;have ag:=he.fr;have eK:=aL (bP.1.next aZ h ag) (bP.2.1.on ag ad) (bP.2.2.on ag ad);clear aI aj af be am aH d0 aP aQ h he ag bg bo;by_cases ap:cm=1
    case pos=>
     have q:(cm == 1)=true:=by simpa using ap
     clear ap;obtain⟨d0,aP,aQ⟩:=eK.2.2.two;go_wp2_with(fail);generalize hX:World.setCell _ _ _=X;have aA:=cT hX;have bK:an X S.heap.size 153 #[.int .i64 9,.string ⟨#[]⟩,.int .i64 0,.int .i64 0,.string ⟨#[]⟩,.slice none 0 0,.string ⟨#[]⟩,.slice none 0 0,.slice none 0 0,.slice none 0 0,.slice none 0 0]:=hX▸eK.2.2.aI 0 _;exact oq
    have q:(cm == 1)=false:=by simpa using ap
    clear ap;obtain⟨aI,aj,af⟩:=eK.1.blk.two;obtain⟨be,am,aH⟩:=eK.2.1.two;obtain⟨d0,aP,aQ⟩:=eK.2.2.two
 go_wp2_with(fail);refine(pM ⟨s,wb,bu,bM,br,sl,GA,gn,gc,MA,mn,mc,FA,fn,fc,M,F,ar⟩ L a1 av bq ax bc ps QA cc qc bR wr (eK.1.wr bH.1) ((Sl.dh bH.2.2.2.2.1 eK.1.fr).mono λb O=>⟨O.1,λh=>O.2 (.inl h)⟩) ad ((Sl.dh bH.2.2.1 eK.1.fr).mono λb O=>⟨O.1,λh=>O.2 (.inl h)⟩) bp).mono ?_;rintro e aT ⟨r,IA,i,ic,rfl,ah,Z,au,ao,ag⟩;simp only at ah ao ag;have bh:S.heap.size<wr.heap.size:=eK.2.2.lt;have l:=eK.2.2.on ag ad;have ba:=eK.2.1.on ag ad;have a8:=iK (eK.1.next aZ ao ag) l ba (ah (F.map λf=>(f.name,f.params))) Z au ag.size;clear aI aj af be am aH d0 aP aQ ah Z au ao ag ba;obtain⟨d0,aP,aQ⟩:=l.two;clear l;go_upto_region 10 with(fail);generalize hX:World.setCell _ _ _=X;have aA:=CD hX;have bQ:an X S.heap.size 153 #[.int .i64 5,.string ⟨#[]⟩,.int .i64 0,.int .i64 0,.string ⟨#[]⟩,.slice none 0 0,.string r.name,.slice IA i ic,.slice none 0 0,.slice none 0 0,.slice none 0 0]:=hX▸(a8.2.1.aI 6 _).aI 7 _;have cu:Sl X (fresh wr X) IA i (r.idx.toList.map a7):=(a8.2.2.2.2.2.1.al λb O=>aA.block b O.2 (aC O.1)).mono λb O=>⟨O.1,by have:=O.2;have:=aA.size;omega⟩
 have aV:=cK (a8.1.fresh bH.1 aA λb O=>ad) bQ (a8.2.2.1.on aA ad) cu (by have:=aA.size;have:=a8.2.2.2.2.2.2;omega:wr.heap.size<=X.heap.size);clear hX d0 aP aQ aA bQ cu;obtain⟨d0,aP,aQ⟩:=aV.2.1.two;go_upto_region 11 with(fail);generalize hU:World.alloc _ _=U;have ab:=bm hU;have b3:=aU hU;have bC:=aV.1.aj aZ ab;have ci:Gr (λb=>(B<=b/\(Value.slice av bq ax).ownBlock≠some b)/\b≠S.heap.size) B 153 11 U bw on bL (ls.map a3):=(bH.2.2.2.1.two.mono λb ac J=>⟨J,ad⟩).dh bC.fr λb O hl=>⟨λh=>by have:=bH.2.2.2.2.2 b O;have:=h.1.1;omega,bH.2.2.2.2.2 b O⟩
 have aO:Gr (λ_=>False) B 9 1 U av bq ax (a1.map D.s):=(Gr.strs bH.2.2.2.1.one).dh bC.fr λb O hl=>⟨λh=>h,bH.2.2.2.2.2 b O⟩
 have j:∀b,(Value.slice av bq ax).ownBlock=some b->b<S.heap.size:=λb O=>(bH.2.2.2.1.one.lt O).2;have m:∀b,(Value.slice bw on bL).ownBlock=some b->B<=b/\b<S.heap.size:=λb O=>bH.2.2.2.1.two.lt O;have aB:∀b,(Value.slice av bq ax).ownBlock=some b->(Value.slice bw on bL).ownBlock≠some b:=bH.2.2.2.1.ne;have cH:X.heap.size<U.heap.size:=b3.lt;have bO:wr.heap.size<=X.heap.size:=aV.2.2.2.2;have b7:Sl U (λb=>wr.heap.size<=b/\b<X.heap.size) IA i (r.idx.toList.map a7):=aV.2.2.2.1.al λb O=>ab.block b O.2 λh=>h;have hD:(a3 (.lock false r)).rep U (kJ (λb=>(B<=b/\(Value.slice av bq ax).ownBlock≠some b)/\b≠S.heap.size) U (.slice bw on bL)) [.int .i64 5,.string ⟨#[]⟩,.int .i64 0,.int .i64 0,.string ⟨#[]⟩,.slice none 0 0,.string r.name,.slice IA i ic,.slice none 0 0,.slice none 0 0,.slice none 0 0]:=by
  refine eg lI (iT.2 ⟨IA,i,ic,rfl,a8.2.2.2.2.1,b7.mono λb O=>⟨⟨⟨by have:=O.1;omega,λh=>by have:=j b h;have:=O.1;omega⟩,by have:=O.1;omega⟩,by have:=O.2;omega,λh=>by have:=(m b h).2;have:=O.1;omega⟩⟩) (Sl.bH _) (Hx _) (Sl.bH _) (Hx _) (Sl.bH _) (Hx _)
 have bv:=r7 bC (aV.2.1.aj ab) (aV.2.2.1.aj ab) b3 ci aO b7 hD;have bf:=aL j m aB;have cb:B<=U.heap.size:=ad;have bl:B<=X.heap.size:=ad;clear hU ab b3 bC ci aO b7 hD j m aB d0 aP aQ;obtain⟨d0,aP,aQ⟩:=bv.2.1.two;obtain⟨be,am,aH⟩:=bv.2.2.1.two;go_upto_region 12 with(at_builtin;refine bN nU rfl (.tmp 59) (.tmp 61) rfl bv.2.2.2.2.1 bv.2.2.2.2.2.2.2 rfl rfl rfl ad ad cb ?_;intro b9 a0 b4 bb az b5 cf;have b1:=aL bb az b5;clear bb az b5 cf d0 aP aQ);obtain⟨f1,aq,bA⟩:=b1.o;obtain⟨j,m,aB⟩:=bf.o;have cy:aw.heap.size<B:=ad;have bn:¬(Value.slice bw on bL).ownBlock=some X.heap.size:=λh=>by have:=(m _ h).2;omega
 have a2:¬(Value.slice bw on bL).ownBlock=some S.heap.size:=λh=>by have:=(m _ h).2;omega
 have aK:¬(Value.slice bw on bL).ownBlock=some aN:=λh=>by have:=(m _ h).1;omega
 have a5:nS ⟨s,wb,bu,bM,br,sl,GA,gn,gc,MA,mn,mc,FA,fn,fc,M,F,ar⟩ aw b4 L:=(nS.mk bv.1.src bv.1.blk (bD.2.2.trans bv.1.fr) bv.1.le).fresh bD.1 aq λb O=>by have:=(m b O).1;omega
 have bS:=bv.2.2.2.2.2.1.cU aq.size λb al hp=>aq.block b al (hp.elim (λh=>h.elim) λhp=>aB b hp);have e2:Sl b4 (λb=>wr.heap.size<=b/\b<X.heap.size) IA i (r.idx.toList.map a7):=bv.2.2.2.2.2.2.1.al λb O=>aq.block b (aC O.2) λh=>by have:=(m b h).2;have:=O.1;omega
 have bI:=iK a5 (bv.2.1.on aq a2) (bv.2.2.1.on aq aK) (bv.2.2.2.1.on aq bn) f1 bS e2;have aJ:∀b,(Value.slice b9 (on+1) a0).ownBlock=some b->(B<=b/\b<S.heap.size/\(Value.slice bw on bL).ownBlock=some b)\/U.heap.size<=b:=λb O=>(bA b O).imp (λh=>⟨(m b h).1,(m b h).2,h⟩) id;have aD:=ai aJ aq.size;clear f1 aq bA j m aB bn a2 aK a5 bS e2 aJ bv b1 be am aH;obtain⟨be,am,aH⟩:=bI.2.2.1.two;have hh:Sl b4 (off (λb=>b=s\/b=wb) b4) av bq (a1.map D.s):=bI.2.2.2.2.2.1.sl (λ_ _ h=>h.elim) (λb O aS=>⟨O,λh=>ad⟩);go_wp2_with(fail);refine(ce.2.2 L ad 0 2 a1 (T++decls ls) av bq ax bc ps QA cc qc bR b4 ad ad (bI.1.wr bD.1) hh ad (λk ap=>ce.2.1 k ad) (Sl.dh bD.2.1 bI.1.fr) bp).mono ?_;rintro e eG ⟨P,aY,cD,aG,bX,rfl,R,a6,b6,cl,z⟩
 try simp only at z
 clear be am aH hh;have a9:=R.le;have cv:L<=24:=bI.1.le;have cB:aG<=48:=by
  have ac:=R.num;have J:=sC P;have aR:=b6.1;simp only[Ib] at aR;omega
 have aJ:=aD.1;have cF:=aD.2;have aa:∀b,(b=s\/b=wb)->b<aw.heap.size:=λb O=>by
  have ac:=bD.1.src.lt;have J:=bD.1.blk.lt;simp only at ac J;rcases O with O|O<;>omega
 have cy:aw.heap.size<B:=ad;have co:=bI.2.2.2.2.1.dh z λb O hl=>⟨λh=>by have:=aa b O;have:=h.1.1;omega,by have:=aa b O;omega⟩
 have bY:=bI.2.2.2.2.2.1.dh z λb O hl=>⟨λh=>h,by have:=aa b O;omega⟩
 have cp:Sl eG (λb=>wr.heap.size<=b/\b<X.heap.size) IA i (r.idx.toList.map a7):=bI.2.2.2.2.2.2.al λb O=>z.block b (aC O.2) λh=>by have:=aa b h;have:=O.1;omega
 have eJ:=bf.1;have bs:Sl eG (kJ (λb=>(B<=b/\(Value.slice av bq ax).ownBlock≠some b)/\b≠S.heap.size) eG (.slice b9 (on+1) a0)) cD aG (P.map a3):=b6.mono λb O=>⟨⟨⟨by have:=O.1;omega,λh=>by have:=eJ b h;have:=O.1;omega⟩,by have:=O.1;omega⟩,O.2,λh=>by
  have ac:=O.1;rcases aJ b h with J|J
  .omega
  .have:=(bI.2.2.2.2.1.lt h).2;omega⟩
 have cq:=yx (bI.1.E4 cl z) (bI.2.1.on z λh=>by have:=aa _ h;omega) (bI.2.2.1.on z λh=>by have:=aa _ h;omega) (bI.2.2.2.1.on z λh=>by have:=aa _ h;omega) co bY cp bs R;have bi:∀d∈P.map a3,d.sz=11:=λd hd=>by obtain⟨x,_,rfl⟩:=Iz.1 hd;exact ub x
 have cn:B<=eG.heap.size:=by have:=z.size;omega
 have bG:U.heap.size<=eG.heap.size:=by have:=z.size;omega
 clear R a6 b6 cl z co bY cp bs bI aJ eJ;go_upto_region 13 with(at_builtin;refine vr nU rfl (.tmp 63) (.tmp 67) rfl cq.2.2.2.2.1 cq.2.2.2.2.2.2.2.1 bi rfl rfl ad ad cn ?_;intro cw bW cG bb az b5 cf;have du:=aL bb az b5;clear bb az b5 cf);obtain⟨bz,aE,bB⟩:=du.o;have aJ:=aD.1;obtain⟨j,m,aB⟩:=bf.o;have bd:∀b,(Value.slice av bq ax).ownBlock=some b->(Value.slice b9 (on+1) a0).ownBlock≠some b:=λb O h=>by
  rcases aJ b h with J|J
  .exact aB b O J.2.2
  .have:=j b O;omega
 have bn:¬(Value.slice b9 (on+1) a0).ownBlock=some X.heap.size:=λh=>by rcases aJ _ h with J|J<;>omega
 have a2:¬(Value.slice b9 (on+1) a0).ownBlock=some S.heap.size:=λh=>by rcases aJ _ h with J|J<;>omega
 have aK:¬(Value.slice b9 (on+1) a0).ownBlock=some aN:=λh=>by rcases aJ _ h with J|J<;>omega
 have cd:=cq.1.fresh bD.1 aE λb O=>by rcases aJ _ O with J|J<;>omega
 have bZ:=cq.2.2.2.2.2.1.cU aE.size λb al hp=>aE.block b al (hp.elim (λh=>h.elim) λhp=>bd b hp);have cr:Sl cG (λb=>wr.heap.size<=b/\b<X.heap.size) IA i (r.idx.toList.map a7):=cq.2.2.2.2.2.2.1.al λb O=>aE.block b (aC O.2) λh=>by have ac:=O.1;have aR:=O.2;rcases aJ _ h with J|J<;>omega
 have dz:=iK cd (cq.2.1.on aE a2) (cq.2.2.1.on aE aK) (cq.2.2.2.1.on aE bn) bz bZ cr;have aM:∀b,(Value.slice cw (on+1+aG) bW).ownBlock=some b->(B<=b/\b<S.heap.size/\(Value.slice bw on bL).ownBlock=some b)\/U.heap.size<=b:=λb O=>by
  rcases bB b O with ac|ac
  .exact aJ b ac
  .exact .inr ad
 have cx:=ae aM;clear bz aE bB aJ j m aB bd bn a2 aK cd bZ cr aM du;obtain⟨d0,aP,aQ⟩:=dz.2.1.two;obtain⟨bU,aW,bx⟩:=dz.2.2.2.1.two;go_wp2_with(fail);generalize ca:World.setCell _ _ _=Y;have b8:aw.heap.size<=S.heap.size:=bD.2.2.size;obtain⟨bk,bt,bj⟩:=dG (M:=λb=>b=s\/b=wb) (w:=aw) [.int .i64 6,.string ⟨#[]⟩,.int .i64 0,.int .i64 0,.string ⟨#[]⟩,.slice none 0 0,.string r.name,.slice IA i ic,.slice none 0 0,.slice none 0 0,.slice none 0 0] (by rfl) dz.2.1 dz.1.fr b8 ca;have j:=bf.1;have aM:=cx.o;have bT:=dz.2.2.2.2.2.1;have cJ:=dz.2.2.2.2.1;have R:=cq.2.2.2.2.2.2.2.2;have cz:Sl Y (λb=>wr.heap.size<=b/\b<X.heap.size) IA i (r.idx.toList.map a7):=dz.2.2.2.2.2.2.al λb O=>bj.block b (mI O.2 dz.2.2.2.1.lt) (aC O.1);have ch:cG.heap.size<=Y.heap.size:=bj.size;have cE:X.heap.size<cG.heap.size:=dz.2.2.2.1.lt
 try refine hN _ _ ?_
 unfold la;refine⟨av,bq,ax,cw,on+1+aG,bW,?_⟩
 iterate 240 apply Exists.intro
 refine⟨?_,rfl⟩;refine⟨a1,.lock false r::P,.lock true r,aY,_,dz.1.fresh bD.1 bj (λb O=>ad),dz.2.2.1.on bj ad,⟨?_,?_,λb O h=>?_⟩,bk,?_,CK a8.2.2.2.1 ce.1 R.wf,?_,?_,a9,?_,ad,ad⟩
 .exact Gr.strs (bT.cU bj.size λb al hp=>bj.block b al (hp.elim (λh=>h.elim) λhp=>by have:=j b hp;omega))
 .have ac:=(cJ.cU bj.size λb al hp=>bj.block b al (by
   rcases hp with hp|hp
   .exact hp.2
   .rcases aM b hp with J|J<;>omega)).mono λb _ hp=>hp.1
  have he:(ls++(ay.lock false r::P)).map a3=(ls.map a3++[a3 (.lock false r)])++P.map a3:=by simp
  rw[he];exact ac
 .rcases aM b h with J|J
  .exact bf.2.2 b O J.2.2
  .have:=j b O;omega
 .exact eg lI (iT.2 ⟨IA,i,ic,rfl,a8.2.2.2.2.1,cz.mono λb O=>⟨⟨by have:=O.1;omega,λh=>by have:=j b h;have:=O.1;omega⟩,by have:=O.2;omega,λh=>by have ac:=O.1;have aR:=O.2;rcases aM b h with J|J<;>omega⟩⟩) (Sl.bH _) (Hx _) (Sl.bH _) (Hx _) (Sl.bH _) (Hx _)
 .intro n hn;rw[Ip,all_cons,vS,all_cons] at hn;simp only[ay.all,ak.ez,ak.all,IC,IB] at hn;obtain⟨k,ac,J,aR⟩:=R.all n hn;exact⟨k,ac,ad,aR⟩
 .rw[Ip,kj,wq,rv];have:=R.num;simp only[ay.num];omega
 .intro y a4;have:=ce.1 a4;exact ym
 ):p:=h
end zA
open zA in
theorem wG(k:Int)(d bq:Nat)(h:k=8/\bq=0\/k=11/\d=0\/k=12/\d=0\/k=13):SK k d bq:=by
 rcases h with⟨rfl,bF⟩|⟨rfl,bE⟩|⟨rfl,bE⟩|rfl
 all_goals
  exact ld
namespace zD
theorem ot(h:p:=by
 exact gE.simple (st:=.fY x (.ez P)) ⟨s,wb,bu,bM,br,sl,GA,gn,gc,MA,mn,mc,FA,fn,fc,M,F,ar⟩ aN B ct bV d ps V T ls N L aw bc QA cc qc bR bH.1 dq cj bH.2.2.2.1 ce.1 b0 c2 aS aV.1 bK (eg (aW.2 ⟨cy,cp,cD,rfl,a8.2.2.2.1,aV.2.2.2.1⟩) km (Sl.bH _) (Hx _) aV.2.2.2.2 bs.2.2.2.1 (Sl.bH _) (Hx _)) ⟨i,j.1,ds ce.1 2 x a8.2.2.1,(cV _ i i a1 _ _ _ ce.1 (λ_ _ h=>h) (Hx _) bs.2.2.1.wf)⟩ (λn hn=>by obtain⟨k,ac,J,aR⟩:=bs.2.2.1.all n hn;exact⟨k,ac,ad,aR⟩) (by simp only[ay.num];omega) dl bD.2.2 bH.2.1
 ):p:=h
theorem yv(h:p:=by
 go_wp2_with(fail);have aq:=bs.2.2.1.num;have bK:=aV.2.1;exact oq
 ):p:=h
theorem yp(h:p:=by
 have bQ:an X S.heap.size 153 #[.int .i64 8,.string ⟨#[]⟩,.int .i64 x.aZ,.int .i64 x.numOf,.string x.bg,.slice cy cp cD,.string ⟨#[]⟩,.slice none 0 0,.slice none 0 0,.slice m aG bX,.slice none 0 0]:=hX▸(((((bs.2.1.aI 0 _).aI 2 _).aI 3 _).aI 4 _).aI 5 _).aI 9 _;exact yu
 ):p:=h
theorem y5(h:p:=by
 go_upto_region 34 with(fail);exact zd
 ):p:=h
theorem lg(h:p:=by
 exact y4
 ):p:=h
end zD
open zD in
theorem Gf(d bq:Nat)(bE:0<d):SK 12 d bq:=by
 exact ld
theorem AL(e0:tv)(U:gV)(nk:Int)(F:List aE)(b:ak)(G:Env)(d:Nat)(l:List du)(n:Int)(st:Nat)(code:List az)(sites:List Int)(g B:Nat)(bo:IP)(ln lc:Nat)(S:IP)(bR:Nat)(bE:IP)(br:Nat)(A:IP)(m c:Nat)(w:World)(bs:IS (Sl w (off (Ms g (.slice S code.length bR) (.slice bE sites.length br)) w) A m (b.list.map a3)))(c6:IS (∀s∈b.list,k8 U nk F s.th/\k8 U nk F s.el))(fg:IS (∀f∈F,f.params.length<=1000))(bJ:IS (b.list.length=m))(f0:m<=100000)(fZ:st+b.num<=100000)(dG:Exit->Act->World->Prop)(hQ0:∀c a d v w,dG (.panic c) (a.put d v) w->dG (.panic c) a w)(x:∀r j,Cs U nk F b G d l n st code sites g B bo ln lc S bR bE br A m c w r j->dG (.exit 0) r j)
  (a:Act) (wr:World) (hI:ie U nk F b G d l n st code sites g B bo ln lc S bR bE br A m c w a wr):Code.wp prog q4 (Exit.then (λr j=>ie U nk F b G d l n st code sites g B bo ln lc S bR bE br A m c w r j/\iI m r j<iI m a wr) dG) a wr:=by
 unfold ie at hI
 iterate 240 obtain⟨_,hI⟩:=hI
 obtain⟨hI,rfl⟩:=hI;have e:=hI;obtain⟨k,rest,ax,ab,aw,a0,L,u,y,bw,bp,ch,Y,aF,aM,bn,rfl,ap,bF,aX,bc,ah,hS,bD,bd,b8,cb,bz,bj,a6⟩:=hI;by_cases al:k<m
 .suffices aS:BK rest from aS e0 U nk F b G d l n st code sites g B bo ln lc S bR bE br A m c w bs c6 fg bJ f0 fZ k ax ab aw a0 L u y bw bp ch Y aF aM bn wr al bF aX bc ah hS bD bd b8 cb bz bj a6 dG hQ0
  exact EN rest
 .obtain rfl:m=k:=ad;have bH:=ae e;clear e bF aX bc ah hS bD bd b8 cb bz bj a6;conv=>arg 2;whnf
  go_wp2;unfold Cs
  iterate 240 apply Exists.intro
  exact⟨bH.o,rfl,rfl⟩
theorem CF(e0:tv)(U:gV)(nk:Int)(F:List aE)(b:ak)(G:Env)(d:Nat)(l:List du)(n:Int)(st:Nat)(code:List az)(sites:List Int)(g B:Nat)(bo:IP)(ln lc:Nat)(S:IP)(bR:Nat)(bE:IP)(br:Nat)(A:IP)(m c:Nat)(w:World)(bs:IS (Sl w (off (Ms g (.slice S code.length bR) (.slice bE sites.length br)) w) A m (b.list.map a3)))(c6:IS (∀s∈b.list,k8 U nk F s.th/\k8 U nk F s.el))(fg:IS (∀f∈F,f.params.length<=1000))(bJ:IS (b.list.length=m))(f0:m<=100000)(fZ:st+b.num<=100000)(dG:Exit->Act->World->Prop)(hQ0:∀c a d v w,dG (.panic c) (a.put d v) w->dG (.panic c) a w)(x:∀r j,Cs U nk F b G d l n st code sites g B bo ln lc S bR bE br A m c w r j->dG (.exit 0) r j)
  (wr:World) {gF gL o u8 gG eP go gp ay ce eQ eR eS eT eU eW eX eY eZ e3 e4 e5 e6 u32 e7 e8 e9 fa fb fd fe ff fh fi fj fk fl fm fo fp fq fr fs ft fu fv fw fx fy fz fA fB fC fD fE u64 fF fG fH fI fJ fK fL fM fN fQ fR fS fT fU fV fW fX fY f3 f4 f5 f6 f7 f8 f9 ga gb gd ge gf gg gh gi gk gl H am aH aP aQ a7 ba be bf bi bm bu bC bM bO bQ bT bW bX b6 cn co cp cq cu cv cx cy cz cA cB cC cD cE cF cG cH cI cJ cL cM cN cO cP cQ cR cS cU cV cW cX cY cZ c4 c5 c7 c8 c9 da db dc dd de df dg dh di dj dk dl dm dn dp dr ds dt dv dw dx dy dB dC dD dE dF dH dI dJ dK dL dM dN dO dP dQ dR dT dU dV dX dY dZ d0 d1 d2 d3 d4 d5 d6 d7 d8 d9 ea eb ec ed ee ef eg eh ei ej ek el em en eo ep eq er es et eu ev ew ex ey ez eA eC eD eE eF eH eI eL eM eN eO:Value} (hI:nL U nk F b G d l n st code sites g B bo ln lc S bR bE br A m c w gF wr):Code.wp prog (Code.loop q4) dG ⟨#[.pointer (some ⟨g,0,none⟩),.slice A m c,undef,undef,.slice bo ln lc,gF,gL,o,u8,gG,eP,go,gp,ay,ce,.pointer (some ⟨g,0,none⟩),.pointer (some ⟨g,0,none⟩),.pointer (some ⟨g,3,none⟩),.slice bo ln lc,eQ,eR,eS,eT,eU,eW,eX,eY,eZ,e3,e4,e5,e6,u32,e7,e8,e9,fa,fb,fd,fe,ff,fh,fi,fj,fk,fl,fm,fo,fp,fq,fr,fs,ft,fu,fv,fw,fx,fy,fz,fA,fB,fC,fD,fE,u64,fF,fG,fH,fI,fJ,fK,fL,fM,fN,fQ,fR,fS,fT,fU,fV,fW,fX,fY,f3,f4,f5,f6,f7,f8,f9,ga,gb,gd,ge,gf,gg,gh,gi,gk,gl,H,am,aH,aP,aQ,a7,ba,be,bf,bi,bm,bu,bC,bM,bO,bQ,bT,bW,bX,b6,cn,co,cp,cq,cu,cv,cx,cy,cz,cA,cB,cC,cD,cE,cF,cG,cH,cI,cJ,cL,cM,cN,cO,cP,cQ,cR,cS,cU,cV,cW,cX,cY,cZ,c4,c5,c7,c8,c9,da,db,dc,dd,de,df,dg,dh,di,dj,dk,dl,dm,dn,dp,dr,ds,dt,dv,dw,dx,dy,dB,dC,dD,dE,dF,dH,dI,dJ,dK,dL,dM,dN,dO,dP,dQ,dR,dT,dU,dV,dX,dY,dZ,d0,d1,d2,d3,d4,d5,d6,d7,d8,d9,ea,eb,ec,ed,ee,ef,eg,eh,ei,ej,ek,el,em,en,eo,ep,eq,er,es,et,eu,ev,ew,ex,ey,ez,eA,eC,eD,eE,eF,eH,eI,eL,eM,eN,eO,undef,undef,undef,undef],[]⟩ wr:=by
 refine wp_loop (ie U nk F b G d l n st code sites g B bo ln lc S bR bE br A m c w) (iI m) ?_ (λa j hI=>AL e0 U nk F b G d l n st code sites g B bo ln lc S bR bE br A m c w bs c6 fg bJ f0 fZ dG hQ0 x a j hI);unfold ie
 iterate 240 apply Exists.intro
 exact⟨hI,rfl⟩
theorem tW(e0:tv)(U:gV)(nk:Int)(F:List aE)(b:ak)(aa:∀s∈b.list,k8 U nk F s.th/\k8 U nk F s.el):k8 U nk F b:=by
 intro G d l V T n st code sites g B bo ln lc S bR bE br A m c w ah hS bD i h hs bd b8 cb fZ bz;have ck:b.list.length=m:=by rw[<-hs.1,ct,Ib]
 have f0:m<=100000:=by have:=gq b;omega
 rw[ct] at hs;obtain⟨GA,gn,gc,MA,mn,mc,FA,fn,fc,aS,_⟩:=h.blk;obtain⟨bs,c6,fg,bJ⟩:=ih hs aa i ck;obtain⟨be,am,aH⟩:=aS.two;have a8:=ae (show nL U nk F b G d l n st code sites g B bo ln lc S bR bE br A m c w (.int .i64 0) w from
  ⟨0,b,l,V,T,n,st,code,sites,bo,ln,lc,S,bR,bE,br,rfl,ad,rfl,rfl,rfl,ah,hS,bD,bd,b8,cb,bz,h,Mv.refl _ _ _ _⟩)
 have bL:=ai h.names.1 h.names.2;clear hs aa ah hS bD i h bd b8 cb bz aS ck;go_enter func54,ntmps54;go_wp2;clear be am aH;refine CF e0 U nk F b G d l n st code sites g B bo ln lc S bR bE br A m c w bs c6 fg bJ f0 fZ _ ?hQ ?hX _ a8.o
 case hQ=>exact λ_ _ d _ _ h=>by cases d<;>exact h
 case hX=>
  intro r wr e;unfold Cs at e
  iterate 240 obtain⟨_,e⟩:=e
  obtain⟨hI,f,rfl⟩:=e;obtain⟨k,rest,ax,ab,aw,a0,L,u,y,bw,bp,ch,Y,aF,aM,bn,j,ap,bF,aX,bc,ah,hS,bD,bd,b8,cb,bz,bj,a6⟩:=hI;have M:m=k:=by
   rw[j] at f;injection f with _ ac;omega
  subst M;clear a8 j f;obtain⟨a4,cu,aW,et,gt,eA,cW,f7,cI,aS,_⟩:=bj.blk;have bf:rest.list=[]:=bF▸IF (by rw[bJ.o];exact Hx _);obtain rfl:rest=.nil:=by cases rest<;>simp_all [ak.list]
  have d0:dq b l n code=(u,a0):=aX.symm;obtain⟨be,am,aH⟩:=aS.two;obtain⟨HA,eV⟩:=aN bj a6;clear bj a6 aS;go_wp2;generalize hX:World.setCell _ _ _=X;obtain⟨eT,dQ⟩:=HA.Bz bL.1 (bL.2.cz eV.o) hX;have fi:=eV.trans dQ;clear be am aH hX dQ;rw[d0];refine bodyPost_end (v:=.tuple #[]) (by simp[results,Tryz.results54,go_sem]) rfl ?_;obtain rfl:L=st+b.num:=by simp only[ak.num] at bc;omega
  exact⟨rfl,Y,aF,aM,bn,y,b8,eT,fi⟩
theorem wU(e0:tv)(U:gV)(nk:Int)(F:List aE):∀b:ak,k8 U nk F b:=ak.AM (C:=k8 U nk F) λb aa=>tW e0 U nk F b aa
namespace Ah
theorem yN(h:p:=by
 refine(show Calls prog 62 #[.pointer (some ⟨g,0,none⟩),.string ⟨#[91]⟩] X _ from cp [91] g A n c T (k+1) deep X aV.1 false bG.2.2 (λh=>by cases h)).mono ?_;rintro e aT ⟨rfl,U,hF⟩;have bU:=aV.2.2.1.on hF ad;have co:=aV.2.2.2.on hF ad;have bi:=aL (show bu aT g A n c T (k+1) deep from by simpa using U) (aV.2.1.trans hF) bU;clear U hF aV;obtain⟨d0,aP,aQ⟩:=co.two;obtain⟨bD,aK,a9⟩:=bU.two;clear co bU;go_wp2_with(fail);generalize ca:World.setCell _ _ _=Y;obtain⟨bk,bt,bj⟩:=dG (M:=λb=>b=g) (w:=w) [.string (strOf t.text),.slice none 0 0] (by rfl) bi.2.2 bi.2.1 (Hx _) ca;have bY:=ai (bi.1.on bj λb O=>ad) bt;clear ca bt bj bD aK a9;obtain⟨bD,aK,a9⟩:=bk.two;refine IJ (v:=.agg #[.string (strOf t.text),.slice none 0 0]) (by simp[results,Tryz.results123,go_sem,bD]) rfl ?_;exact⟨rfl,bY.1,bY.2⟩
 ):p:=h
end Ah
open Ah in
theorem uO(g:Nat)(A:IP)(n c:Nat)(T:List Tok)(k deep:Nat)(w:World)(t:Tok)(h:bu w g A n c T k deep)(ht:T[k]?=some t)(bp:t.kind=1)(ct:bR [91] T (k+1)=false)(ap:k+1<n) :
  Calls prog 123 #[.pointer (some ⟨g,0,none⟩)] w λe ab=>e=.returned (.agg #[.string (strOf t.text),.slice none 0 0])/\bu ab g A n c T (k+1) deep/\Fr (λb=>b=g) w ab:=by
 have H:=ae h;have bG:=aL ht bp ct;have cg:=h.blk.lt;clear h bp ht ct;go_enter func123,ntmps123;go_upto_region 1 with(fail);generalize ba:World.alloc _ _=W;have aw:=bm ba;have cy:=aU ba;have ay:=aL (H.aj aw) aw cy;clear ba aw cy;go_wp2_with(fail);refine(mo g A n c T k deep W t ay.1 bG.1 bG.2.1 ap).mono ?_;exact yM
theorem Db(g:Nat)(A:IP)(n c:Nat)(T:List Tok)(k deep:Nat)(w:World)(h:bu w g A n c T k deep)(ac:bR [40] T k=true)(J:bR [41] T (k+1)=true)(ap:k+2<n) :
  Calls prog 122 #[.pointer (some ⟨g,0,none⟩)] w λe ab=>e=.returned (.slice none 0 0)/\bu ab g A n c T (k+2) deep/\Fr (λb=>b=g) w ab:=by
 have H:=ae h;have bG:=ai ac J;clear h ac J;go_enter func122,ntmps122;exact DL
theorem xt(g:Nat)(A:IP)(n c:Nat)(T:List Tok)(k deep:Nat)(w:World)(h:bu w g A n c T k deep)(ac:bR [40] T k=true)(J:bR [41] T (k+1)=true)(ap:k+2<n) :
  Calls prog 66 #[.pointer (some ⟨g,0,none⟩)] w λe ab=>e=.returned (.slice none 0 0)/\bu ab g A n c T (k+2) deep/\Fr (λb=>b=g) w ab:=by
 have H:=ae h;have bG:=ai ac J;clear h ac J;go_enter func66,ntmps66;exact DL
namespace Ai
theorem yN(h:p:=by
 refine(show Calls prog 62 #[.pointer (some ⟨g,0,none⟩),.string ⟨#[91]⟩] X _ from cp [91] g A n c T (k+1) deep X aV.1 false bG.2.2.1 (λh=>by cases h)).mono ?_;rintro e aT ⟨rfl,U,hF⟩;have bi:=bF (show bu aT g A n c T (k+1) deep from by simpa using U) (aV.2.1.trans hF) (aV.2.2.1.on hF ad) (aV.2.2.2.on hF ad);clear U hF aV;go_wp2_with(fail);refine(show Calls prog 97 #[.pointer (some ⟨g,0,none⟩),.string ⟨#[59]⟩] aT _ from jE [59] g A n c T (k+1) deep aT bi.1 bG.2.2.2 ad).mono ?_;rintro e b4 ⟨rfl,U,hF⟩;have bU:=bi.2.2.1.on hF ad;have co:=bi.2.2.2.on hF ad;have bI:=aL U (bi.2.1.trans hF) bU;clear U hF bi;obtain⟨d0,aP,aQ⟩:=co.two;obtain⟨bD,aK,a9⟩:=bU.two;clear co bU;go_wp2_with(fail);generalize ca:World.setCell _ _ _=Y;obtain⟨bk,bt,bj⟩:=dG (M:=λb=>b=g) (w:=w) [.string (strOf t.text),.bool false,.int .i64 0] (by rfl) bI.2.2 bI.2.1 (Hx _) ca;have bY:=ai (bI.1.on bj λb O=>ad) bt;clear ca bt bj bD aK a9;obtain⟨bD,aK,a9⟩:=bk.two;refine IJ (v:=.agg #[.string (strOf t.text),.bool false,.int .i64 0]) (by simp[results,Tryz.results64,go_sem,bD]) rfl ?_;exact⟨rfl,bY.1,bY.2⟩
 ):p:=h
end Ai
open Ai in
theorem BP(g:Nat)(A:IP)(n c:Nat)(T:List Tok)(k deep:Nat)(w:World)(t:Tok)(h:bu w g A n c T k deep)(ht:T[k]?=some t)(bp:t.kind=1)(ct:bR [91] T (k+1)=false)(J:bR [59] T (k+1)=true)(ap:k+2<n) :
  Calls prog 64 #[.pointer (some ⟨g,0,none⟩),.bool false] w λe ab=>e=.returned (.agg #[.string (strOf t.text),.bool false,.int .i64 0])/\bu ab g A n c T (k+2) deep/\Fr (λb=>b=g) w ab:=by
 have H:=ae h;have bG:=bF ht bp ct J;have cg:=h.blk.lt;clear h bp ht ct J;go_enter func64,ntmps64;go_upto_region 1 with(fail);generalize ba:World.alloc _ _=W;have aw:=bm ba;have cy:=aU ba;have ay:=aL (H.aj aw) aw cy;clear ba aw cy;go_wp2_with(fail);refine(mo g A n c T k deep W t ay.1 bG.1 bG.2.1 ad).mono ?_;exact yM
end Go.Proofs.YtajlmkkidmjgoaaGreatDoor

/- Part 33 of the proof. No condition of its own. -/
import Derived.Test.YtnigabjngpnbiabGreatF17
import Derived.Test.YtnigabjngpnbiabGreatF32
namespace Go.Proofs.YtnigabjngpnbiabGreat
open Go.RowKit Go.Proofs.Tryz
set_option maxRecDepth 1000000
set_option maxHeartbeats 25600000
set_option linter.unusedVariables false
variable{p:Prop}{w:World}
namespace C4
theorem fC(h:p:=by
 refine cj ?_;generalize hX:World.setCell _ _ _=X;have J:=cP hX;have bE:an X S 175 #[(1:Int),.string (hW L),.int .i64 z.a5,.int .i64 z.numOf,.string z.bw,.slice b9 aN zc,NF,(),(),(),()]:=by
  have ac:=au.s.aK 1 (.string (⟨#[118]⟩++strOf [byteOf r,byteOf t]));rw[v9 ad aE.1 aE.2] at ac;rw[<-hX]
  try rw[v9 ad aE.1 aE.2]
  exact ac
 have H:=au.c.fresh aR.1 J λb O=>ad;have bt:Sl X (λb=>S.heap.size<b/\b<X.heap.size) b9 aN (z.args.map bo):=(ce.ak λb O=>J.block b O.2 (ax O.1)).mono λb O=>⟨O.1,M0 O.2 J.size⟩
 have j:∀b,(Value.slice be bp bC).ownBlock=some b->B<=b/\b<S.heap.size:=λb O=>aR.2.2.2.1.one.lt O;have aO:Gr (λ_=>False) B 9 1 X be bp bC (a1.map D.s):=((Gr.strs (Q:=λ_=>False) aR.2.2.2.1.one).cD au.c.fr λb O hl=>⟨λh=>h,aR.2.2.2.2.2 b O⟩).dm J.size λb ap hp=>J.block b ap (hp.elim (λh=>h.elim) λhp=>by have:=j b hp;omega);have aP:=hz bE H bt aO aI bV J.size;have cv:=ae j;have b2:S<X.heap.size:=bE.lt;have b3:B<=X:=ad;clear hX J bE H bt aO j aI bV au ce d0 aQ aS;obtain⟨d0,aQ,aS⟩:=aP.1.two;go_wp2_with(at_builtin;refine bJ kQ rfl (.tmp 114) (.tmp 117) rfl aP.2.2.2.1 (vG.2 rfl) rfl rfl rfl ad ad b3 ?_;intro dq cs cV ao aA ci b8;have dv:=ay ao aA ci;clear ao aA ci b8);obtain⟨bm,bd,bB⟩:=dv.o;obtain⟨bE,H,bt,aO,aI,bV,cz⟩:=aP.o;have j:=cv.o;have m:∀b,(Value.slice bL on bF).ownBlock=some b->B<=b/\b<S.heap.size:=λb O=>aR.2.2.2.1.two.lt O;have aG:=aR.2.2.2.1.ne;have aH:∀b,(Value.slice dq (bp+1) cs).ownBlock=some b->(b<S.heap.size/\(Value.slice be bp bC).ownBlock=some b)\/X.heap.size<=b:=λb O=>(bB b O).imp (λh=>⟨(j b h).2,h⟩) id;have a4:¬(Value.slice be bp bC).ownBlock=some S.heap.size:=λh=>by have:=(j _ h).2;omega
 have cy:=bd.size;have bZ:L<=24:=H.le
 try refine hN _ _ ?_
 unfold l8;refine⟨dq,bp+1,cs,bL,on,bF,?_⟩
 iterate 240 apply Exists.intro
 refine⟨?_,rfl⟩;refine⟨a1++[hW L],[],.set true (hW L) z,L,_,(pk.mk H.src H.blk (bg.2.2.trans H.fr) H.le).fresh bg.1 bd (λb O=>by have:=(j b O).1;omega),(aR.2.1.on H.fr (λh=>by rcases h with h|h<;>(simp only at h;omega))).on bd (λh=>by have:=(j _ h).1;omega),⟨?_,?_,λb O h=>?_⟩,bE.on bd a4,?_,?_,?_,?_,MU _,?_,by simp;omega,ad⟩
 .rw[Na,M7,Nr];have:=Gr.strs (l:=a1++[hW L]) (Q:=λb=>B<=b/\(Value.slice bL on bF).ownBlock≠some b) (by rw[Na,M7,Nr];exact bm)
  rwa [Na,M7,Nr] at this
 .rw[Nt];have ac:Gr (λb=>(B<=b/\(Value.slice be bp bC).ownBlock≠some b)/\b<S.heap.size) B 175 11 S bL on bF (ls.map bk):=aR.2.2.2.1.two.mono λb O hp=>⟨hp,O⟩
  have az:=ac.cD H.fr λb O hl=>⟨λh=>by have:=aR.2.2.2.2.2 b O;have:=h.1.1;omega,aR.2.2.2.2.2 b O⟩
  have aV:=az.dm bd.size λb ap hp=>bd.block b ap (λbK=>hp.elim (λh=>h.1.2 bK) (λh=>aG b bK h));exact aV.mono λb _ hp=>⟨hp.1.1,λh=>by
   rcases aH b h with aU|aU
   .exact hp.1.2 aU.2
   .have:=hp.2;omega⟩
 .rcases aH b O with aU|aU
  .exact aG b aU.2 h
  .have:=(m b h).2;omega
 .refine eI (aY.2 ⟨b9,aN,zc,rfl,bV,?_⟩) k5 (Sl.bY _) (MU _) (Sl.bY _) (MU _) (Sl.bY _) (MU _);refine(bt.ak λb O=>bd.block b O.2 λh=>by have:=(j b h).2;have:=O.1;omega).mono λb O=>⟨⟨by have:=O.1;omega,λh=>?_⟩,by have:=O.2;omega,λh=>by have:=(m b h).2;have:=O.1;omega⟩
  have ac:=O.1;have az:=O.2;rcases aH b h with aU|aU<;>omega
 .exact uq.2 ⟨Gi ad,cc.2.1 L ad,dR cc.1 2 z aI⟩
 .intro n hn;rw[Nu,all_cons] at hn;simp only[aB.all,al.eV,al.all,Nt,Nv] at hn;exact⟨L,MU _,ad,hn⟩
 .rw[Nu,tS];simp only[aB.num];omega
 .intro y bb;rw[Nu,r8,<-List.append_assoc];rcases Nc.1 bb with bb|bb
  .exact Nc.2 (.inl (cc.1 bb))
  .simp only[Nv] at bb;subst bb;exact Nc.2 (.inr (by simp[decls,aB.decl]))
 ):p:=h
theorem mb(h:p:=by
 have ct:L<=24:=bY.1.le;have gR:¬(wb=s\/wb=S.heap.size):=ad;have cw:S<wr.heap.size:=bY.2.2.lt;have a5:Int.tmod (L:Int) 26=(L:Int):=Int.tmod_eq_of_lt ad ad;have bG:Int.tdiv (L:Int) 26=0:=Int.tdiv_eq_zero_of_lt ad ad;go_upto_region 19 with(fail);refine sK (λb=>b=s\/b=S.heap.size) [26] (.free 0 (.free 1 (.free 3 (.free 4 (.free 5 (.held 6 (.free 7 (.free 8 (.free 9 (.free 10 (.free 11 (.free 12 (.held 13 (.free 14 (.free 15 (.free 16 (.free 17 (.free 21 (.pick [2,18] (λi=>bif i == 2 then .pick [18,22] (λi=>bif i == 18 then .held 19 (.free 20 (.pick [22] (λ_=>.free 23 (.pick [24] (λ_=>.free 25 (.pick [26] (λ_=>.stop))))))) else .free 23 (.pick [18,24] (λi=>bif i == 18 then .held 19 (.free 20 (.pick [24] (λ_=>.free 25 (.pick [26] (λ_=>.stop))))) else .pick [18] (λ_=>.held 19 (.free 20 (.free 25 (.pick [26] (λ_=>.stop)))))))) else .held 19 (.free 20 (.pick [2] (λ_=>.pick [22] (λ_=>.free 23 (.pick [24] (λ_=>.free 25 (.pick [26] (λ_=>.stop)))))))))))))))))))))))))))) ?_
 iterate 5 refine tf ?_
 refine pd ?_
 iterate 6 refine tf ?_
 refine pd ?_
 iterate 5 refine tf ?_
 have U:NJ (rG ⟨s,wb,sA,bU,bx,sl,GA,gn,gc,MA,mn,mc,FA,fn,fc,M,F,ar⟩ S wr L #[(5:Int),NF,(0:Int),(0:Int),NF,(),NF,(),(),(),()] wr):=ae ⟨bY.1,bY.2.2,NC⟩;clear a0 ak af bs am aK d0 aQ aS;generalize bD:IntKind.u8.wrap (IntKind.i64.wrap (97+(L:Int)))=r;generalize bH:IntKind.u8.wrap (IntKind.i64.wrap (97+Int.tmod (IntKind.i64.wrap 0) 26))=t;have aE:=ah bD bH;clear bD bH;have bS:(strOf [byteOf r,byteOf t]).size=2:=aC _;refine rq (P:=?pT) (ops:=?J1) (Q:=?J3) (R:=?J4) (tails:=?J8) (rest:=.free 25 (.pick [26] (λ_=>.stop))) (aa:=?J0)
  (C:=λ(a3:Nat) (Y:Value) eX=>∃(z:VE) (b9:NH) (aN zc:Nat),Y=.agg #[.int .i64 z.a5,.int .i64 z.numOf,.string z.bw,.slice b9 aN zc]/\rG ⟨s,wb,sA,bU,bx,sl,GA,gn,gc,MA,mn,mc,FA,fn,fc,M,F,ar⟩ S wr L #[(1:Int),NF,.int .i64 z.a5,.int .i64 z.numOf,.string z.bw,.slice b9 aN zc,NF,(),(),(),()] eX/\Sl eX (λb=>S.heap.size<b/\b<eX.heap.size) b9 aN (z.args.map bo)/\z.src a1 2/\aN<=zc) (λkey=>?zU) ?zO
 case zU=>
  refine a2 ?_ ?_
  ·
   refine aD rfl (λK hK=>?_) rfl;go_simp;refine(j6 ⟨s,wb,sA,bU,bx,sl,GA,gn,gc,MA,mn,mc,FA,fn,fc,M,F,ar⟩ L a1 be bp bC _ ((U.c.aj bl (NC.drew)).wr aR.1) ((Sl.cD aR.2.2.2.2.1 (U.c.aj bl (NC.drew)).fr).mono λb O=>⟨O.1,λh=>O.2 (.inl h)⟩) ad).mono ?_;rintro e v1 ⟨x,cW,bh,cY,rfl,hx,aM,cm,h,he⟩
   try simp only at h he
   have aL:Fr (λb=>b=s) wr v1:=Fr.aF he;have I:=ae (U.call bl bX h aL);have aP:=ah hx aM;have a7:=ae ((cm.mono λb O=>(⟨by have:=U.s.lt;have:=O.1;have:wr.drew.heap.size=wr:=rfl;omega,O.2⟩:S.heap.size<b/\b<v1.heap.size)));refine dB hK (he.mono λ_ h=>.inl h) ?_;clear hK K;clear hx aM cm h he aL;refine a2 ?_ ?_
   ·
    refine ep ?_;refine bf (λV=>Ext v1 V/\an V v1 5 #[.int .u8 r,.int .u8 t]) ⟨NC.alloc _,ND⟩ (λv2 hV=>?_);have bj:=ae (I.aj bl hV.1);have aX:=ae hV.2;have bM:S<v1.heap.size:=I.s.lt;have ca:=ae ((a7.ak λb O=>hV.1.block b O.2 λh=>h).mono λb O=>(⟨O.1,M0 O.2 hV.1.size⟩:S.heap.size<b/\b<v2.heap.size));clear hV;obtain⟨e0,a6,ag⟩:=aX.two;refine cB (v:=?_) rfl (by rfl) (λV hV=>?_) ?_;rotate_left
    .have b6:=mS V v1 r t ((hV.cell ag ad).trans (e0 0)) ((hV.cell ag ad).trans (e0 1))
     (go_simp<;>with_reducible rfl)
    try simp only[PU]
    clear e0 a6 ag;refine tf ?_;refine aq ?_;obtain⟨d0,aQ,aS⟩:=bj.s.two;refine aD rfl (λK hK=>?_) rfl;go_simp;refine dB hK (NC.setCell (.inl (.inr rfl)) _) ?_;clear hK K;refine bf (λV=>rG ⟨s,wb,sA,bU,bx,sl,GA,gn,gc,MA,mn,mc,FA,fn,fc,M,F,ar⟩ S wr L #[(1:Int),NF,(0:Int),(0:Int),NF,(),NF,(),(),(),()] V/\Fr (λb=>b=S.heap.size) v2 V) ⟨by exact bj.aK aR.1 0 _,by exact(Fr.refl (λb=>b=S.heap.size) v2).setCell (.inl rfl) _⟩ (λai hV=>?_);have br:=ae hV.1;have cb:=ae ((ca.ak λb O=>hV.2.block b O.2 (ax O.1)).mono λb O=>(⟨O.1,M0 O.2 hV.2.size⟩:S.heap.size<b/\b<ai.heap.size));have b1:=ae (aX.on hV.2 ad);clear hV d0 aQ aS;refine tf ?_;refine aq ?_;obtain⟨d0,aQ,aS⟩:=br.s.two;refine aD rfl (λK hK=>?_) rfl;go_simp;refine dB hK ((((NC.setCell (.inl (.inr rfl)) _).setCell (.inl (.inr rfl)) _).setCell (.inl (.inr rfl)) _).setCell (.inl (.inr rfl)) _) ?_;clear hK K;refine bf (λV=>rG ⟨s,wb,sA,bU,bx,sl,GA,gn,gc,MA,mn,mc,FA,fn,fc,M,F,ar⟩ S wr L #[(1:Int),NF,.int .i64 x.a5,.int .i64 x.numOf,.string x.bw,.slice cW bh cY,NF,(),(),(),()] V/\Fr (λb=>b=S.heap.size) ai V) ⟨by exact(((br.aK aR.1 2 _).aK aR.1 3 _).aK aR.1 4 _).aK aR.1 5 _,by exact((((Fr.refl (λb=>b=S.heap.size) ai).setCell (.inl rfl) _).setCell (.inl rfl) _).setCell (.inl rfl) _).setCell (.inl rfl) _⟩ (λv4 hV=>?_)
    have co:=ae hV.1;have cf:=ae ((cb.ak λb O=>hV.2.block b O.2 (ax O.1)).mono λb O=>(⟨O.1,M0 O.2 hV.2.size⟩:S.heap.size<b/\b<v4.heap.size));have cx:=ae (b1.on hV.2 ad);clear hV d0 aQ aS;have aF:=And.intro co.o (And.intro cf.o aP.o);have aW:∃(z:VE) (b9:NH) (aN zc:Nat),(Value.agg #[.int .i64 x.a5,.int .i64 x.numOf,.string x.bw,.slice cW bh cY])=.agg #[.int .i64 z.a5,.int .i64 z.numOf,.string z.bw,.slice b9 aN zc]/\rG ⟨s,wb,sA,bU,bx,sl,GA,gn,gc,MA,mn,mc,FA,fn,fc,M,F,ar⟩ S wr L #[(1:Int),NF,.int .i64 z.a5,.int .i64 z.numOf,.string z.bw,.slice b9 aN zc,NF,(),(),(),()] v4/\Sl v4 (λb=>S.heap.size<b/\b<v4.heap.size) b9 aN (z.args.map bo)/\z.src a1 2/\aN<=zc:=⟨x,cW,bh,cY,rfl,aF⟩
    revert aW;generalize v1.heap.size=a3;exact yn
   ·
    obtain⟨d0,aQ,aS⟩:=I.s.two;refine aD rfl (λK hK=>?_) rfl;go_simp;refine dB hK (NC.setCell (.inl (.inr rfl)) _) ?_;clear hK K;refine bf (λV=>rG ⟨s,wb,sA,bU,bx,sl,GA,gn,gc,MA,mn,mc,FA,fn,fc,M,F,ar⟩ S wr L #[(1:Int),NF,(0:Int),(0:Int),NF,(),NF,(),(),(),()] V/\Fr (λb=>b=S.heap.size) v1 V) ⟨by exact I.aK aR.1 0 _,by exact(Fr.refl (λb=>b=S.heap.size) v1).setCell (.inl rfl) _⟩ (λbu hV=>?_);have W:=ae hV.1;have a8:=ae ((a7.ak λb O=>hV.2.block b O.2 (ax O.1)).mono λb O=>(⟨O.1,M0 O.2 hV.2.size⟩:S.heap.size<b/\b<bu.heap.size));clear hV d0 aQ aS;refine tf ?_;refine a2 ?_ ?_
    ·
     refine ep ?_;refine bf (λV=>Ext bu V/\an V bu 5 #[.int .u8 r,.int .u8 t]) ⟨NC.alloc _,ND⟩ (λv6 hV=>?_);have bw:=ae (W.aj bl hV.1);have aZ:=ae hV.2;have bM:S<bu.heap.size:=W.s.lt;have cg:=ae ((a8.ak λb O=>hV.1.block b O.2 λh=>h).mono λb O=>(⟨O.1,M0 O.2 hV.1.size⟩:S.heap.size<b/\b<v6.heap.size));clear hV;obtain⟨e0,a6,ag⟩:=aZ.two;refine cB (v:=?_) rfl (by rfl) (λV hV=>?_) ?_;rotate_left
     .have b6:=mS V bu r t ((hV.cell ag ad).trans (e0 0)) ((hV.cell ag ad).trans (e0 1))
      (go_simp<;>with_reducible rfl)
     try simp only[PU]
     clear e0 a6 ag;refine tf ?_;refine aq ?_;obtain⟨d0,aQ,aS⟩:=bw.s.two;refine aD rfl (λK hK=>?_) rfl;go_simp;refine dB hK ((((NC.setCell (.inl (.inr rfl)) _).setCell (.inl (.inr rfl)) _).setCell (.inl (.inr rfl)) _).setCell (.inl (.inr rfl)) _) ?_;clear hK K;refine bf (λV=>rG ⟨s,wb,sA,bU,bx,sl,GA,gn,gc,MA,mn,mc,FA,fn,fc,M,F,ar⟩ S wr L #[(1:Int),NF,.int .i64 x.a5,.int .i64 x.numOf,.string x.bw,.slice cW bh cY,NF,(),(),(),()] V/\Fr (λb=>b=S.heap.size) v6 V) ⟨by exact(((bw.aK aR.1 2 _).aK aR.1 3 _).aK aR.1 4 _).aK aR.1 5 _,by exact((((Fr.refl (λb=>b=S.heap.size) v6).setCell (.inl rfl) _).setCell (.inl rfl) _).setCell (.inl rfl) _).setCell (.inl rfl) _⟩ (λcG hV=>?_);have cp:=ae hV.1;have ch:=ae ((cg.ak λb O=>hV.2.block b O.2 (ax O.1)).mono λb O=>(⟨O.1,M0 O.2 hV.2.size⟩:S.heap.size<b/\b<cG.heap.size));have cA:=ae (aZ.on hV.2 ad);clear hV d0 aQ aS;have aF:=And.intro cp.o (And.intro ch.o aP.o)
     have aW:∃(z:VE) (b9:NH) (aN zc:Nat),(Value.agg #[.int .i64 x.a5,.int .i64 x.numOf,.string x.bw,.slice cW bh cY])=.agg #[.int .i64 z.a5,.int .i64 z.numOf,.string z.bw,.slice b9 aN zc]/\rG ⟨s,wb,sA,bU,bx,sl,GA,gn,gc,MA,mn,mc,FA,fn,fc,M,F,ar⟩ S wr L #[(1:Int),NF,.int .i64 z.a5,.int .i64 z.numOf,.string z.bw,.slice b9 aN zc,NF,(),(),(),()] cG/\Sl cG (λb=>S.heap.size<b/\b<cG.heap.size) b9 aN (z.args.map bo)/\z.src a1 2/\aN<=zc:=⟨x,cW,bh,cY,rfl,aF⟩
     revert aW;generalize bu.heap.size=a3;exact yn
    ·
     obtain⟨d0,aQ,aS⟩:=W.s.two;refine aD rfl (λK hK=>?_) rfl;go_simp;refine dB hK ((((NC.setCell (.inl (.inr rfl)) _).setCell (.inl (.inr rfl)) _).setCell (.inl (.inr rfl)) _).setCell (.inl (.inr rfl)) _) ?_;clear hK K;refine bf (λV=>rG ⟨s,wb,sA,bU,bx,sl,GA,gn,gc,MA,mn,mc,FA,fn,fc,M,F,ar⟩ S wr L #[(1:Int),NF,.int .i64 x.a5,.int .i64 x.numOf,.string x.bw,.slice cW bh cY,NF,(),(),(),()] V/\Fr (λb=>b=S.heap.size) bu V) ⟨by exact(((W.aK aR.1 2 _).aK aR.1 3 _).aK aR.1 4 _).aK aR.1 5 _,by exact((((Fr.refl (λb=>b=S.heap.size) bu).setCell (.inl rfl) _).setCell (.inl rfl) _).setCell (.inl rfl) _).setCell (.inl rfl) _⟩ (λba hV=>?_);have bA:=ae hV.1;have cl:=ae ((a8.ak λb O=>hV.2.block b O.2 (ax O.1)).mono λb O=>(⟨O.1,M0 O.2 hV.2.size⟩:S.heap.size<b/\b<ba.heap.size));clear hV d0 aQ aS;refine aq ?_;refine ep ?_;refine bf (λV=>Ext ba V/\an V ba 5 #[.int .u8 r,.int .u8 t]) ⟨NC.alloc _,ND⟩ (λbz hV=>?_);have cr:=ae (bA.aj bl hV.1);have b7:=ae hV.2;have bM:S<ba.heap.size:=bA.s.lt;have cn:=ae ((cl.ak λb O=>hV.1.block b O.2 λh=>h).mono λb O=>(⟨O.1,M0 O.2 hV.1.size⟩:S.heap.size<b/\b<bz.heap.size));clear hV;obtain⟨e0,a6,ag⟩:=b7.two;refine cB (v:=?_) rfl (by rfl) (λV hV=>?_) ?_;rotate_left
     .have b6:=mS V ba r t ((hV.cell ag ad).trans (e0 0)) ((hV.cell ag ad).trans (e0 1))
      (go_simp<;>with_reducible rfl)
     try simp only[PU]
     clear e0 a6 ag;refine tf ?_;have aF:=And.intro cr.o (And.intro cn.o aP.o);have aW:∃(z:VE) (b9:NH) (aN zc:Nat),(Value.agg #[.int .i64 x.a5,.int .i64 x.numOf,.string x.bw,.slice cW bh cY])=.agg #[.int .i64 z.a5,.int .i64 z.numOf,.string z.bw,.slice b9 aN zc]/\rG ⟨s,wb,sA,bU,bx,sl,GA,gn,gc,MA,mn,mc,FA,fn,fc,M,F,ar⟩ S wr L #[(1:Int),NF,.int .i64 z.a5,.int .i64 z.numOf,.string z.bw,.slice b9 aN zc,NF,(),(),(),()] bz/\Sl bz (λb=>S.heap.size<b/\b<bz.heap.size) b9 aN (z.args.map bo)/\z.src a1 2/\aN<=zc:=⟨x,cW,bh,cY,rfl,aF⟩
     revert aW;generalize ba.heap.size=a3;exact yn
  ·
   refine ep ?_;refine bf (λV=>Ext wr V/\an V wr 5 #[.int .u8 r,.int .u8 t]) ⟨(NC.alloc _).drew,ND⟩ (λv10 hV=>?_);have k:=ae (U.aj bl hV.1);have Z:=ae hV.2;have bM:S<wr.heap.size:=U.s.lt;clear hV;obtain⟨e0,a6,ag⟩:=Z.two;refine cB (v:=?_) rfl (by rfl) (λV hV=>?_) ?_;rotate_left
   .have b6:=mS V wr r t ((hV.cell ag ad).trans (e0 0)) ((hV.cell ag ad).trans (e0 1))
    (go_simp<;>with_reducible rfl)
   try simp only[PU]
   clear e0 a6 ag;refine tf ?_;refine aq ?_;refine aD rfl (λK hK=>?_) rfl;go_simp;refine(j6 ⟨s,wb,sA,bU,bx,sl,GA,gn,gc,MA,mn,mc,FA,fn,fc,M,F,ar⟩ L a1 be bp bC _ ((k.c.aj bl NC).wr aR.1) ((Sl.cD aR.2.2.2.2.1 (k.c.aj bl NC).fr).mono λb O=>⟨O.1,λh=>O.2 (.inl h)⟩) ad).mono ?_;rintro e v11 ⟨x,cW,bh,cY,rfl,hx,aM,cm,h,he⟩
   try simp only at h he
   have u:Fr (λb=>b=s) v10 v11:=he;have ab:=ae (k.call bl bX h u);have aP:=ah hx aM;have bO:=ae ((cm.mono λb O=>(⟨by have:=k.s.lt;have:=O.1;omega,O.2⟩:S.heap.size<b/\b<v11.heap.size)));have bI:=ae (Z.on u ad);refine dB hK (he.mono λ_ h=>.inl h) ?_;clear hK K;clear hx aM cm h he u;refine aq ?_;obtain⟨d0,aQ,aS⟩:=ab.s.two;refine aD rfl (λK hK=>?_) rfl;go_simp;refine dB hK (NC.setCell (.inl (.inr rfl)) _) ?_;clear hK K;refine bf (λV=>rG ⟨s,wb,sA,bU,bx,sl,GA,gn,gc,MA,mn,mc,FA,fn,fc,M,F,ar⟩ S wr L #[(1:Int),NF,(0:Int),(0:Int),NF,(),NF,(),(),(),()] V/\Fr (λb=>b=S.heap.size) v11 V) ⟨by exact ab.aK aR.1 0 _,by exact(Fr.refl (λb=>b=S.heap.size) v11).setCell (.inl rfl) _⟩ (λb0 hV=>?_);have aj:=ae hV.1;have bR:=ae ((bO.ak λb O=>hV.2.block b O.2 (ax O.1)).mono λb O=>(⟨O.1,M0 O.2 hV.2.size⟩:S.heap.size<b/\b<b0.heap.size));have bN:=ae (bI.on hV.2 ad);clear hV d0 aQ aS;refine tf ?_;refine aq ?_;obtain⟨d0,aQ,aS⟩:=aj.s.two;refine aD rfl (λK hK=>?_) rfl;go_simp;refine dB hK ((((NC.setCell (.inl (.inr rfl)) _).setCell (.inl (.inr rfl)) _).setCell (.inl (.inr rfl)) _).setCell (.inl (.inr rfl)) _) ?_;clear hK K
   refine bf (λV=>rG ⟨s,wb,sA,bU,bx,sl,GA,gn,gc,MA,mn,mc,FA,fn,fc,M,F,ar⟩ S wr L #[(1:Int),NF,.int .i64 x.a5,.int .i64 x.numOf,.string x.bw,.slice cW bh cY,NF,(),(),(),()] V/\Fr (λb=>b=S.heap.size) b0 V) ⟨by exact(((aj.aK aR.1 2 _).aK aR.1 3 _).aK aR.1 4 _).aK aR.1 5 _,by exact((((Fr.refl (λb=>b=S.heap.size) b0).setCell (.inl rfl) _).setCell (.inl rfl) _).setCell (.inl rfl) _).setCell (.inl rfl) _⟩ (λaw hV=>?_);have bW:=ae hV.1;have bT:=ae ((bR.ak λb O=>hV.2.block b O.2 (ax O.1)).mono λb O=>(⟨O.1,M0 O.2 hV.2.size⟩:S.heap.size<b/\b<aw.heap.size));have cu:=ae (bN.on hV.2 ad);clear hV d0 aQ aS;have aF:=And.intro bW.o (And.intro bT.o aP.o);have aW:∃(z:VE) (b9:NH) (aN zc:Nat),(Value.agg #[.int .i64 x.a5,.int .i64 x.numOf,.string x.bw,.slice cW bh cY])=.agg #[.int .i64 z.a5,.int .i64 z.numOf,.string z.bw,.slice b9 aN zc]/\rG ⟨s,wb,sA,bU,bx,sl,GA,gn,gc,MA,mn,mc,FA,fn,fc,M,F,ar⟩ S wr L #[(1:Int),NF,.int .i64 z.a5,.int .i64 z.numOf,.string z.bw,.slice b9 aN zc,NF,(),(),(),()] aw/\Sl aw (λb=>S.heap.size<b/\b<aw.heap.size) b9 aN (z.args.map bo)/\z.src a1 2/\aN<=zc:=⟨x,cW,bh,cY,rfl,aF⟩
   revert aW;generalize wr.heap.size=a3;exact yn
 case zO=>
  rintro a3 Y cC ⟨z,b9,aN,zc,rfl,au,ce,aI,bV⟩;obtain⟨d0,aQ,aS⟩:=au.s.two;refine tf ?_;exact fQ
 ):p:=h
end C4
open C4 in
theorem JN(d bp:Nat):SK 7 d bp:=by
 exact ma
namespace C5
theorem c4(h:p:=by
 generalize hX:World.setCell _ _ _=X;have J:Fr (λb=>b=S.heap.size) aW X:=hX▸((((((Fr.refl (λb=>b=S.heap.size) aW).setCell (.inl rfl) _).setCell (.inl rfl) _).setCell (.inl rfl) _).setCell (.inl rfl) _).setCell (.inl rfl) _).setCell (.inl rfl) _;have aU:an X S 175 #[(2:Int),nm,.int .i64 x.a5,.int .i64 x.numOf,.string x.bw,.slice cW bh cY,NF,(),(),(),()]:=hX▸(((((a3.2.1.aK 0 _).aK 1 _).aK 2 _).aK 3 _).aK 4 _).aK 5 _;clear hX d0 aQ aS;go_wp2_with(fail);obtain⟨bt,_,hx,aM,cm,bO⟩:=a3.o;have cl:=J.size;have bf:=bY.2.2.lt
 try refine hN _ _ ?_
 unfold l8;apply Exists.intro
 refine⟨bp,bC,bL,on,bF,?_⟩
 iterate 240 apply Exists.intro
 refine⟨?_,rfl⟩;exact ho.simple (st:=.set false nm x) ⟨s,wb,sA,bU,bx,sl,GA,gn,gc,MA,mn,mc,FA,fn,fc,M,F,ar⟩ ck B eE bi d ps V T ls N L av a9 QA cq qc bQ aR.1 fk bn aR.2.2.2.1 cc.1 cd c2 aT (bt.fresh aR.1 J λb O=>ad) aU (eI (aY.2 ⟨cW,bh,cY,rfl,aM,(cm.ak λb O=>J.block b O.2 (ax O.1)).mono λb O=>⟨by have:=O.1;omega,by have:=O.2;omega⟩⟩) k5 (Sl.bY _) (MU _) (Sl.bY _) (MU _) (Sl.bY _) (MU _)) ⟨cc.1 dX.o,dR cc.1 2 x hx⟩ (λn hn=>by simp[aB.all] at hn) (by simp only[aB.num];omega) (MU _) bg.2.2 aR.2.1
 ):p:=h
theorem mb(h:p:=by
 have m:(0:Int)<(bp:Int):=ad;have gR:¬(wb=s\/wb=S.heap.size):=ad;go_upto_region 22 with(fail);refine eJ (λb=>b=s\/b=S.heap.size) [(0,3),(1,3),(2,3),(3,3),(4,0),(5,3),(6,3),(10,3),(11,3),(13,3),(7,1),(8,3),(9,0),(12,1),(14,1),(15,3),(16,2),(17,3),(18,2)] ?_
 iterate 4 refine pf ?_
 refine oP ?_
 iterate 5 refine pf ?_
 refine aE rfl (λK hK=>?_);go_simp;refine(aZ wr.drew s sA bU bx sl bp (bY.1.aj bl NC.drew).src ad ad).mono ?_;rintro e aO ⟨cw,rfl,a7,b2,h,he⟩;obtain⟨j,rfl⟩:=M6 a7;have ai:Fr (λb=>b=s) wr aO:=Fr.aF he.fr;have P:=bY.1.next bl h ai;obtain⟨i,r,nm,cs,g,O,hm,ba,bu,hc⟩:=Sl.g1 (z:=1) aR.2.2.2.2.1 (λ_=>rfl) (k:=j) ad;subst g;obtain rfl:=vG.1 ba;have c0:=(P.fr.cell O.1 O.2).trans (hc 0 _ rfl);simp only[Nat.mul_one,Nd] at c0;have o:¬(i=s\/i=S.heap.size):=λh=>by
  rcases h with h|h
  .exact O.2 (.inl h)
  .have:=O.1;omega
 have l:i<aO:=by have:=P.fr.size;have:=O.1;omega
 have cO:(0:Int)<=(j:Int):=ad;have fq:(j:Int)<(bp:Int):=ad;have dX:=ae (M4 hm);have H1:=ah P (bY.2.2.on ai ad);have cn:=ai.size;refine dB hK (he.fr.mono λ_ h=>.inl h) ?_;clear hK K;clear a0 ak af bs am aK d0 aQ aS ba bu hc hm h he ai P O a7 b2;refine pf ?_;refine Mn ?_;refine aE rfl (λK hK=>?_);go_simp;refine(j6 ⟨s,wb,sA,bU,bx,sl,GA,gn,gc,MA,mn,mc,FA,fn,fc,M,F,ar⟩ L a1 _ bp bC aO (H1.1.wr aR.1) ((Sl.cD aR.2.2.2.2.1 H1.1.fr).mono λb O=>⟨O.1,λh=>O.2 (.inl h)⟩) ad).mono ?_;rintro e aW ⟨x,cW,bh,cY,rfl,hx,aM,cm,h,he⟩;simp only at h he;have ag:=H1.2.on he ad;have a3:=dH (H1.1.next bl h he) ag hx aM cm he.size;obtain⟨d0,aQ,aS⟩:=ag.two;refine dB hK (he.mono λ_ h=>.inl h) ?_;clear hK K;clear ag hx aM cm h he c0;refine aE rfl (λK hK=>?_);go_simp;refine dB hK (NC.setCell (.inl (.inr rfl)) _) ?_;clear hK K;refine pf ?_;refine au rfl (λK hK=>?_);go_simp;exact nH
 ):p:=h
end C5
open C5 in
theorem JM(d bp:Nat)(bH:0<bp):SK 8 d bp:=by
 exact ma
namespace C6
theorem pY(h:p:=by
 exact ho.simple (st:=.ret) ⟨s,wb,sA,bU,bx,sl,GA,gn,gc,MA,mn,mc,FA,fn,fc,M,F,ar⟩ ck B eE bi d ps V T ls N L av a9 QA cq qc bQ aR.1 fk bn aR.2.2.2.1 cc.1 cd c2 aT (dS.1.fresh aR.1 J λb O=>ad) aU (eI mF k5 (Sl.bY _) (MU _) (Sl.bY _) (MU _) (Sl.bY _) (MU _)) trivial (λn hn=>by simp[aB.all] at hn) (by simp only[aB.num];omega) (MU _) bg.2.2 aR.2.1
 ):p:=h
theorem mb(h:p:=by
 first
  | subst bI
    have dS:=bY
  | revert bH
    intro bH;have dJ:decide ((bp:Int) > 0)=false:=by simp;omega
    have cA:¬(0:Int)<(bp:Int):=ad;clear bH
    have dS:=bY
  | have cu:S<wr.heap.size:=bY.2.2.lt
    go_wp2_with(fail);refine(aZ wr s sA bU bx sl 3 bY.1.src ad ad).mono ?_;rintro e wr ⟨cw,rfl,a7,b2,h,he⟩;have ai:=he.fr;have dS:=ay (bY.1.next bl h ai) (bY.2.1.on ai ad) (bY.2.2.on ai ad);clear a0 ak af bs am aK d0 aQ aS h he ai a7 b2;by_cases aj:cw=1
    case pos=>
     have q:(cw == 1)=true:=by simpa using aj
     clear aj;obtain⟨d0,aQ,aS⟩:=dS.2.2.two;go_wp2_with(fail);generalize hX:World.setCell _ _ _=X;have J:=cP hX;have aU:an X S 175 #[(9:Int),NF,(0:Int),(0:Int),NF,(),NF,(),(),(),()]:=hX▸dS.2.2.aK 0 _;exact pX
    have q:(cw == 1)=false:=by simpa using aj
    clear aj;obtain⟨a0,ak,af⟩:=dS.1.blk.two;obtain⟨bs,am,aK⟩:=dS.2.1.two;obtain⟨d0,aQ,aS⟩:=dS.2.2.two
 go_wp2_with(fail);refine(rD ⟨s,wb,sA,bU,bx,sl,GA,gn,gc,MA,mn,mc,FA,fn,fc,M,F,ar⟩ L a1 be bp bC a9 ps QA cq qc bQ wr (dS.1.wr aR.1) ((Sl.cD aR.2.2.2.2.1 dS.1.fr).mono λb O=>⟨O.1,λh=>O.2 (.inl h)⟩) ad ((Sl.cD aR.2.2.1 dS.1.fr).mono λb O=>⟨O.1,λh=>O.2 (.inl h)⟩) bv).mono ?_;rintro e aW ⟨r,IA,i,ic,rfl,aN,aM,au,aw,ai⟩;simp only at aN aw ai;have bf:S<wr.heap.size:=dS.2.2.lt;have ag:=dS.2.2.on ai ad;have aF:=dS.2.1.on ai ad;have a3:=hz (dS.1.next bl aw ai) ag aF (aN (F.map λf=>(f.name,f.params))) aM au ai.size;clear a0 ak af bs am aK d0 aQ aS aN aM au aw ai aF;obtain⟨d0,aQ,aS⟩:=ag.two;clear ag;go_upto_region 10 with(fail);generalize hX:World.setCell _ _ _=X;have J:=GH hX;have bE:an X S 175 #[(5:Int),NF,(0:Int),(0:Int),NF,(),.string r.name,.slice IA i ic,(),(),()]:=hX▸(a3.2.1.aK 6 _).aK 7 _;have cg:Sl X (fresh wr X) IA i (r.idx.toList.map bo):=(a3.2.2.2.2.2.1.ak λb O=>J.block b O.2 (ax O.1)).mono λb O=>⟨O.1,by have:=O.2;have:=J.size;omega⟩
 have aP:=cQ (a3.1.fresh aR.1 J λb O=>ad) bE (a3.2.2.1.on J ad) cg (by have:=J.size;have:=a3.2.2.2.2.2.2;omega:wr.heap.size<=X.heap.size);clear hX d0 aQ aS J bE cg;obtain⟨d0,aQ,aS⟩:=aP.2.1.two;go_upto_region 11 with(fail);generalize hU:World.alloc _ _=U;have cl:=aX hU;have cm:=aL hU;have bG:=aP.1.aj bl cl;have b7:Gr (λb=>(B<=b/\(Value.slice be bp bC).ownBlock≠some b)/\b≠S.heap.size) B 175 11 U bL on bF (ls.map bk):=(aR.2.2.2.1.two.mono λb ac az=>⟨az,ad⟩).cD bG.fr λb O hl=>⟨λh=>by have:=aR.2.2.2.2.2 b O;have:=h.1.1;omega,aR.2.2.2.2.2 b O⟩
 have aO:Gr (λ_=>False) B 9 1 U be bp bC (a1.map D.s):=(Gr.strs aR.2.2.2.1.one).cD bG.fr λb O hl=>⟨λh=>h,aR.2.2.2.2.2 b O⟩
 have j:∀b,(Value.slice be bp bC).ownBlock=some b->b<S.heap.size:=λb O=>(aR.2.2.2.1.one.lt O).2;have m:∀b,(Value.slice bL on bF).ownBlock=some b->B<=b/\b<S.heap.size:=λb O=>aR.2.2.2.1.two.lt O;have aG:∀b,(Value.slice be bp bC).ownBlock=some b->(Value.slice bL on bF).ownBlock≠some b:=aR.2.2.2.1.ne;have cC:X<U.heap.size:=cm.lt;have bt:wr<=X.heap.size:=aP.2.2.2.2;have bV:Sl U (λb=>wr.heap.size<=b/\b<X.heap.size) IA i (r.idx.toList.map bo):=aP.2.2.2.1.ak λb O=>cl.block b O.2 λh=>h;have hD:(bk (.lock false r)).rep U (lD (λb=>(B<=b/\(Value.slice be bp bC).ownBlock≠some b)/\b≠S.heap.size) U (.slice bL on bF)) [(5:Int),NF,(0:Int),(0:Int),NF,(),.string r.name,.slice IA i ic,(),(),()]:=by
  refine eI mF (jR.2 ⟨IA,i,ic,rfl,a3.2.2.2.2.1,bV.mono λb O=>⟨⟨⟨by have:=O.1;omega,λh=>by have:=j b h;have:=O.1;omega⟩,by have:=O.1;omega⟩,by have:=O.2;omega,λh=>by have:=(m b h).2;have:=O.1;omega⟩⟩) (Sl.bY _) (MU _) (Sl.bY _) (MU _) (Sl.bY _) (MU _)
 have cz:=rY bG (aP.2.1.aj cl) (aP.2.2.1.aj cl) cm b7 aO bV hD;have bu:=ay j m aG;have b3:B<=U:=ad;have a2:B<=X:=ad;clear hU cl cm bG b7 aO bV hD j m aG d0 aQ aS;obtain⟨d0,aQ,aS⟩:=cz.2.1.two;obtain⟨bs,am,aK⟩:=cz.2.2.1.two;go_upto_region 12 with(at_builtin;refine bJ pr rfl (.tmp 59) (.tmp 61) rfl cz.2.2.2.2.1 cz.2.2.2.2.2.2.2 rfl rfl rfl ad ad b3 ?_;intro bZ br b6 ao aA ci b8;have aD:=ay ao aA ci;clear ao aA ci b8 d0 aQ aS);obtain⟨dP,aa,bP⟩:=aD.o;obtain⟨j,m,aG⟩:=bu.o;have cp:av<B:=ad;have bD:¬(Value.slice bL on bF).ownBlock=some X.heap.size:=λh=>by have:=(m _ h).2;omega
 have a4:¬(Value.slice bL on bF).ownBlock=some S.heap.size:=λh=>by have:=(m _ h).2;omega
 have aE:¬(Value.slice bL on bF).ownBlock=some ck:=λh=>by have:=(m _ h).1;omega
 have aC:pk ⟨s,wb,sA,bU,bx,sl,GA,gn,gc,MA,mn,mc,FA,fn,fc,M,F,ar⟩ av b6 L:=(pk.mk cz.1.src cz.1.blk (bg.2.2.trans cz.1.fr) cz.1.le).fresh bg.1 aa λb O=>by have:=(m b O).1;omega
 have bO:=cz.2.2.2.2.2.1.dm aa.size λb ap hp=>aa.block b ap (hp.elim (λh=>h.elim) λhp=>aG b hp);have e1:Sl b6 (λb=>wr.heap.size<=b/\b<X.heap.size) IA i (r.idx.toList.map bo):=cz.2.2.2.2.2.2.1.ak λb O=>aa.block b (ax O.2) λh=>by have:=(m b h).2;have:=O.1;omega
 have bN:=hz aC (cz.2.1.on aa a4) (cz.2.2.1.on aa aE) (cz.2.2.2.1.on aa bD) dP bO e1;have Z:∀b,(Value.slice bZ (on+1) br).ownBlock=some b->(B<=b/\b<S.heap.size/\(Value.slice bL on bF).ownBlock=some b)\/U.heap.size<=b:=λb O=>(bP b O).imp (λh=>⟨(m b h).1,(m b h).2,h⟩) id;have a6:=ah Z aa.size;clear dP aa bP j m aG bD a4 aE aC bO e1 Z cz aD bs am aK;obtain⟨bs,am,aK⟩:=bN.2.2.1.two;have hj:Sl b6 (off (λb=>b=s\/b=wb) b6) be bp (a1.map D.s):=bN.2.2.2.2.2.1.sl (λ_ _ h=>h.elim) (λb O aT=>⟨O,λh=>ad⟩);go_wp2_with(fail);refine(cc.2.2 L ad 0 2 a1 (T++decls ls) be bp bC a9 ps QA cq qc bQ b6 ad ad (bN.1.wr bg.1) hj ad (λk aj=>cc.2.1 k ad) (Sl.cD bg.2.1 bN.1.fr) bv).mono ?_;rintro e cO ⟨R,ba,cx,ab,bR,rfl,l,c4,cn,b9,z⟩
 try simp only at z
 clear bs am aK hj;have a5:=l.le;have ct:L<=24:=bN.1.le;have cv:ab<=48:=by
  have ac:=l.num;have az:=vh R;have aV:=cn.1;simp only[M5] at aV;omega
 have Z:=a6.1;have cB:=a6.2;have aq:∀b,(b=s\/b=wb)->b<av.heap.size:=λb O=>by
  have ac:=bg.1.src.lt;have az:=bg.1.blk.lt;simp only at ac az;rcases O with O|O<;>omega
 have cp:av<B:=ad;have cb:=bN.2.2.2.2.1.cD z λb O hl=>⟨λh=>by have:=aq b O;have:=h.1.1;omega,by have:=aq b O;omega⟩
 have bS:=bN.2.2.2.2.2.1.cD z λb O hl=>⟨λh=>h,by have:=aq b O;omega⟩
 have ce:Sl cO (λb=>wr.heap.size<=b/\b<X.heap.size) IA i (r.idx.toList.map bo):=bN.2.2.2.2.2.2.ak λb O=>z.block b (ax O.2) λh=>by have:=aq b h;have:=O.1;omega
 have b4:=bu.1;have bj:Sl cO (lD (λb=>(B<=b/\(Value.slice be bp bC).ownBlock≠some b)/\b≠S.heap.size) cO (.slice bZ (on+1) br)) cx ab (R.map bk):=cn.mono λb O=>⟨⟨⟨by have:=O.1;omega,λh=>by have:=b4 b h;have:=O.1;omega⟩,by have:=O.1;omega⟩,O.2,λh=>by
  have ac:=O.1;rcases Z b h with az|az
  .omega
  .have:=(bN.2.2.2.2.1.lt h).2;omega⟩
 have P:=yl (bN.1.JA b9 z) (bN.2.1.on z λh=>by have:=aq _ h;omega) (bN.2.2.1.on z λh=>by have:=aq _ h;omega) (bN.2.2.2.1.on z λh=>by have:=aq _ h;omega) cb bS ce bj l;have aI:∀d∈R.map bk,d.sz=11:=λd hd=>by obtain⟨x,_,rfl⟩:=Ns.1 hd;exact xa x
 have ca:B<=cO:=by have:=z.size;omega
 have aY:U<=cO.heap.size:=by have:=z.size;omega
 clear l c4 cn b9 z cb bS ce bj bN Z b4;go_upto_region 13 with(at_builtin;refine ya pr rfl (.tmp 63) (.tmp 67) rfl P.2.2.2.2.1 P.2.2.2.2.2.2.2.1 aI rfl rfl ad ad ca ?_;intro cj bK cV ao aA ci b8;have dv:=ay ao aA ci;clear ao aA ci b8);obtain⟨bm,bd,bB⟩:=dv.o;have Z:=a6.1;obtain⟨j,m,aG⟩:=bu.o;have bh:∀b,(Value.slice be bp bC).ownBlock=some b->(Value.slice bZ (on+1) br).ownBlock≠some b:=λb O h=>by
  rcases Z b h with az|az
  .exact aG b O az.2.2
  .have:=j b O;omega
 have bD:¬(Value.slice bZ (on+1) br).ownBlock=some X.heap.size:=λh=>by rcases Z _ h with az|az<;>omega
 have a4:¬(Value.slice bZ (on+1) br).ownBlock=some S.heap.size:=λh=>by rcases Z _ h with az|az<;>omega
 have aE:¬(Value.slice bZ (on+1) br).ownBlock=some ck:=λh=>by rcases Z _ h with az|az<;>omega
 have b1:=P.1.fresh bg.1 bd λb O=>by rcases Z _ O with az|az<;>omega
 have bT:=P.2.2.2.2.2.1.dm bd.size λb ap hp=>bd.block b ap (hp.elim (λh=>h.elim) λhp=>bh b hp);have cf:Sl cV (λb=>wr.heap.size<=b/\b<X.heap.size) IA i (r.idx.toList.map bo):=P.2.2.2.2.2.2.1.ak λb O=>bd.block b (ax O.2) λh=>by have ac:=O.1;have aV:=O.2;rcases Z _ h with az|az<;>omega
 have dz:=hz b1 (P.2.1.on bd a4) (P.2.2.1.on bd aE) (P.2.2.2.1.on bd bD) bm bT cf;have aH:∀b,(Value.slice cj (on+1+ab) bK).ownBlock=some b->(B<=b/\b<S.heap.size/\(Value.slice bL on bF).ownBlock=some b)\/U.heap.size<=b:=λb O=>by
  rcases bB b O with ac|ac
  .exact Z b ac
  .exact .inr ad
 have ch:=ae aH;clear bm bd bB Z j m aG bh bD a4 aE b1 bT cf aH dv;obtain⟨d0,aQ,aS⟩:=dz.2.1.two;obtain⟨b0,a8,bw⟩:=dz.2.2.2.1.two;go_wp2_with(fail);generalize co:World.setCell _ _ _=Y;have bW:av<=S.heap.size:=bg.2.2.size;obtain⟨bM,bA,bz⟩:=eg (M:=λb=>b=s\/b=wb) (w:=av) [(6:Int),NF,(0:Int),(0:Int),NF,(),.string r.name,.slice IA i ic,(),(),()] (by rfl) dz.2.1 dz.1.fr bW co;have j:=bu.1;have aH:=ch.o;have wi:=dz.2.2.2.2.2.1;have cR:=dz.2.2.2.2.1;have l:=P.2.2.2.2.2.2.2.2;have cr:Sl Y (λb=>wr.heap.size<=b/\b<X.heap.size) IA i (r.idx.toList.map bo):=dz.2.2.2.2.2.2.ak λb O=>bz.block b (nI O.2 dz.2.2.2.1.lt) (ax O.1);have c9:cV<=Y.heap.size:=bz.size;have cy:X<cV.heap.size:=dz.2.2.2.1.lt
 try refine hN _ _ ?_
 unfold l8;refine⟨be,bp,bC,cj,on+1+ab,bK,?_⟩
 iterate 240 apply Exists.intro
 refine⟨?_,rfl⟩;refine⟨a1,.lock false r::R,.lock true r,ba,_,dz.1.fresh bg.1 bz (λb O=>ad),dz.2.2.1.on bz ad,⟨?_,?_,λb O h=>?_⟩,bM,?_,GS a3.2.2.2.1 cc.1 l.wf,?_,?_,a5,?_,ad,ad⟩
 .exact Gr.strs (wi.dm bz.size λb ap hp=>bz.block b ap (hp.elim (λh=>h.elim) λhp=>by have:=j b hp;omega))
 .have ac:=(cR.dm bz.size λb ap hp=>bz.block b ap (by
   rcases hp with hp|hp
   .exact hp.2
   .rcases aH b hp with az|az<;>omega)).mono λb _ hp=>hp.1
  have he:(ls++(aB.lock false r::R)).map bk=(ls.map bk++[bk (.lock false r)])++R.map bk:=by simp
  rw[he];exact ac
 .rcases aH b h with az|az
  .exact bu.2.2 b O az.2.2
  .have:=j b O;omega
 .exact eI mF (jR.2 ⟨IA,i,ic,rfl,a3.2.2.2.2.1,cr.mono λb O=>⟨⟨by have:=O.1;omega,λh=>by have:=j b h;have:=O.1;omega⟩,by have:=O.2;omega,λh=>by have ac:=O.1;have aV:=O.2;rcases aH b h with az|az<;>omega⟩⟩) (Sl.bY _) (MU _) (Sl.bY _) (MU _) (Sl.bY _) (MU _)
 .intro n hn;rw[Nj,all_cons,yA,all_cons] at hn;simp only[aB.all,al.eV,al.all,Nu,Nt] at hn;obtain⟨k,ac,az,aV⟩:=l.all n hn;exact⟨k,ac,ad,aV⟩
 .rw[Nj,k2,yW,tS];have:=l.num;simp only[aB.num];omega
 .intro y bb;have:=cc.1 bb;exact A9
 ):p:=h
end C6
open C6 in
theorem ze(k:Int)(d bp:Nat)(h:k=8/\bp=0\/k=11/\d=0\/k=12/\d=0\/k=13):SK k d bp:=by
 rcases h with⟨rfl,bH⟩|⟨rfl,bI⟩|⟨rfl,bI⟩|rfl
 all_goals
  exact ma
theorem Fy{ab:World}{B e z:Nat}{v:Value}{n:Nat}{xs:List Value}(h:w.ownsRow B e z v n xs)(aj:∀b,B<=b->b<w.heap.size->ab.heap[b]?=w.heap[b]?):ab.ownsRow B e z v n xs:=by
 refine⟨h.1,?_⟩;rcases h.2 with az|⟨ah,cap,cur,bK,j,a4,rest⟩
 .exact .inl az
 .exact .inr ⟨ah,cap,cur,bK,j,(aj ah j (Array.getElem?_eq_some_iff.1 a4).1).trans a4,rest⟩
namespace Dg
theorem c4(h:p:=by
 clear bK ap av;generalize cl:World.setCell aW _ _=cD;have ct:=cP cl;have bQ:an cD X 39 #[false,mi,.slice cu 1 bi]:=cl▸aS.aK 2 _;have T:=N.on ct ad;have aU:=L.on ct ad;have j:=ae ct;clear cl aS N L ct;obtain⟨a0,ak,af⟩:=aU.two;obtain⟨bK,ap,av⟩:=bQ.two;obtain⟨d6,dx,dy⟩:=T.two;go_wp2;rw[rounds_succ];go_wp2;generalize co:World.setCell _ _ _=Y;obtain⟨S,aM,a7⟩:=b7.o;have bl:=a7.size;have aP:=aM.size;have bg:=j.size;have b2:Ext w cD:=⟨j.os.trans ((a4.trans (aM.trans a7)).os),j.tape.trans ((a4.trans (aM.trans a7)).tape),j.output.trans ((a4.trans (aM.trans a7)).output),Nl (a4.trans (aM.trans a7)).size bg,
  λk aj _=>(j.block k (M0 aj (a4.trans (aM.trans a7)).size) ad).trans ((a4.trans (aM.trans a7)).block k aj λh=>h)⟩
 obtain⟨bM,bA,bz⟩:=qu T b2 (Nat.le_succ _) co;obtain⟨bq,a1,a5⟩:=bM.two;refine NB (v:=.agg #[false,mi,.slice cu 1 bi]) (by simp[results,Tryz.results116,go_sem,bq]) rfl ?_;refine⟨_,_,_,_,_,rfl,?_,bA⟩;rw[aV.o];refine dK.2 ⟨cu,1,bi,rfl,ad,?_⟩;simp only[hx,Option.map_some,Option.toList_some,M7,Nr];have cX:=bz.size;have fO:=dc.lt;have cJ:∀b,dq.heap.size<=b->b<aW.heap.size->Y.heap[b]?=aW.heap[b]?:=λb ac az=>(bz.block b ad ad).trans (j.block b az ad);have f:=Fy S cJ;simp only[Nm,Nu] at f;refine Sl.qQ f ?_ rfl (λah _ ac az=>⟨ad,az⟩);rw[D.bx];exact D.aM (λb bh=>⟨by have:=bh.1;omega,by have:=bh.2;omega⟩) _ _ (D.aO (λb bh=>(cJ b bh.1 (ax bh.2)).trans (a7.block b bh.2 λh=>h)) _ _ U.o)
 ):p:=h
theorem wK(h:p:=by
 refine cN rfl (by rfl) ?_
 try simp only[PU]
 refine ha rfl (by rfl) ?_
 try simp only[PU]
 refine cN rfl (by rfl) ?_
 try simp only[PU]
 refine cN rfl (by rfl) ?_
 try simp only[PU]
 refine ha rfl (by rfl) ?_
 try simp only[PU]
 refine cN rfl (by rfl) ?_
 try simp only[PU]
 iterate 2 refine pf ?_
 refine aG ?_;go_wp2;refine wp_loop_rounds 1 ?_;rw[rounds_succ];go_wp2;generalize co:World.setCell _ _ _=Y;obtain⟨bM,bA,_⟩:=qu bj.o a4.o (Nat.le_succ _) co;obtain⟨bq,a1,a5⟩:=bM.two;clear co;refine NB (v:=.agg #[true,bJ,()]) (by simp[results,Tryz.results116,go_sem,bq]) rfl ?_;exact Az
 ):p:=h
theorem fC(h:p:=by
 refine tf ?_;refine cj ?_;generalize hX:World.setCell _ _ _=X;obtain⟨bE,bt,_⟩:=qu b4 aC bd hX;have a8:=ae (bk.trans bt);have a3:=ae (cn.aj bt);have u:=ae (bD.aj bt);clear hX bs am aK b4 aC bd;obtain⟨bs,am,aK⟩:=bE.two;go_upto_region 6 with(fail);generalize hV:World.alloc _ _=dq;have ai:=aX hV;have cx:=bE.aj ai;have bu:=aL hV;have a4:=ae (a8.trans ai);have ag:=a3.aj ai;have bj:=ae (u.aj ai);have cM:w+2<=X.heap.size:=u.lt;obtain⟨bm,dc⟩:=aJ ag bu;clear hV ai bE bs am aK;obtain⟨bs,am,aK⟩:=cx.two;obtain⟨a0,ak,af⟩:=ag.two;obtain⟨bK,ap,av⟩:=bu.two;obtain⟨d6,dx,dy⟩:=bj.two;have bV:w+2<=dq.heap.size:=ad;clear cx ag bu;obtain⟨bp,cz,bJ⟩:=v;simp only at *;rcases cT.o with⟨cB,aN⟩|⟨az,m,h0,hm,cO,fn⟩
 .subst cB;have bf:n=0:=by have:=bH.1;rw[aN] at this;exact this.symm
  subst bf;go_wp2;refine eJ (λ_=>False) [(0,3),(1,0),(2,3),(3,3),(4,3),(5,3),(6,3),(7,3),(8,0),(9,3),(10,0),(11,3),(12,3),(13,0),(14,3),(15,3),(16,3)] ?_;refine pf ?_;refine ph ?_
  iterate 2 refine pf ?_
  refine cN rfl (by rfl) ?_;exact wJ
 .subst az;obtain⟨mi,rfl⟩:=M6 h0;rw[Np] at hm;obtain⟨_,MA,mn,mc,dS,bR,E⟩:=dX.on a4.o;have bb:mi<mn:=by have:=(List.getElem?_eq_some_iff.1 hm).1;have:=E.1;rw[M5] at this;omega
  obtain⟨ht,bF,bW,cs,rfl,bU,al,bw,bv,aH⟩:=E.g1 (z:=3) (λ_=>rfl) bb;rw[hm] at al;injection al with al;subst al;obtain rfl:=fv.1 bw;have f2:=aH 2 _ rfl;have bn:ht<dq:=bU;have ao:g<dq:=M0 bT.lt a4.size;clear E bv aH bw bU;by_cases aI:0<m.size
  .have bI:decide (m.size > 0)=true:=by simpa using aI
   obtain⟨x,hx,aw⟩:=cO aI;have ab:=bH.on (Fr.ext a4.o);rw[hx] at ab;obtain rfl:1=n:=ab.1;obtain⟨b,o,b0,Z,a9,H,rfl,O,aB,e0,e1,e2,e3⟩:=Sl.Fv ab (c7 x);obtain⟨B,bO,bc,e,c6,b3⟩:=aY.1 aB;simp only[List.cons.injEq,and_true] at e;obtain⟨rfl,rfl,rfl,rfl⟩:=e;have aZ:b<dq:=O;have G:=ae aB;have bY:=ae (gB l x aw);have bN:=ae (bT.on a4.o);clear aB b3 O ab cO fn;go_wp2;refine eJ (λ_=>False) [(0,3),(1,0),(2,3),(3,3),(4,3),(5,3),(6,3),(7,3),(8,0),(9,3),(10,0),(11,3),(12,3),(13,0),(14,3),(15,3),(16,3)] ?_;refine pf ?_;refine ph ?_
   iterate 6 refine pf ?_
   refine ph ?_;refine pf ?_;refine ph ?_
   iterate 2 refine pf ?_
   refine ph ?_
   iterate 3 refine pf ?_
   refine aG ?_;go_wp2;refine wp_loop_rounds 2 ?_;rw[rounds_succ];go_wp2;refine eJ (λ_=>False) [(0,3),(1,0),(2,3),(3,3),(4,0),(5,3),(6,3),(7,0),(8,3),(9,1),(10,1),(11,2),(12,3),(13,2)] ?_;refine pf ?_;refine bS (v:=?_) rfl (by rfl) (λV hV=>?_) ?_;rotate_left
   .obtain⟨hVc,hVf⟩:=Fr.jF hV
    (go_simp<;>with_reducible rfl)
   try simp only[PU]
   iterate 2 refine pf ?_
   refine bS (v:=?_) rfl (by rfl) (λV hV=>?_) ?_;rotate_left
   .obtain⟨hVc,hVf⟩:=Fr.jF hV
    (go_simp<;>with_reducible rfl)
   try simp only[PU]
   iterate 2 refine pf ?_
   refine bS (v:=?_) rfl (by rfl) (λV hV=>?_) ?_;rotate_left
   .obtain⟨hVc,hVf⟩:=Fr.jF hV
    (go_simp<;>with_reducible rfl)
   try simp only[PU]
   refine pf ?_;refine aE rfl (λK hK=>?_);go_simp;refine(bY.o g st _ _ _ _ _ _ _ (bN.on NC.drew.drew) (D.on G.o (Fr.ext NC.drew.drew))).mono ?_;rintro e aO ⟨o1,n1,s1,cR,da,cU,rfl,cS,ar⟩;refine dB hK (ar) ?_;clear hK K;have aM:Ext dq aO:=Fr.aF (Fr.aF ar);have F:(bo (bL l x)).rep aO (fresh dq aO) [o1,n1,s1,.slice cR da cU]:=cS;have U:=ae F;refine rS ?_;refine au rfl (λK hK=>?_);rw[if_pos (by rfl)];have aP:=aM.size;refine zi _ p2 (.tmp 79) (.tmp 88) (by rfl) dq (.slice none 0 0) 0 [] _ (by rfl) ⟨by simp,.inl ⟨rfl,rfl⟩⟩ (by rfl) (by rfl) (by simp[Value.oneCell']) ad ad aP ?_;intro v2 aW S aA _;obtain⟨cu,bi,rfl,br,_⟩:=bG S;have a7:Ext aO aW:=NC.grown aA (by simp[Value.ownBlock]);have aS:=(dc.aj aM).aj a7;have N:=(bj.aj aM).aj a7;have L:=(bm.aj aM).aj a7;have b7:=ay S aM a7;clear S aA cS F ar aM a7 a0 ak af bs am aK bK ap av d6 dx dy e0 e1 e2 e3 aZ f2 bn ao bR;obtain⟨bK,ap,av⟩:=aS.two;exact nH
  .have bI:decide (m.size > 0)=false:=by simp;omega
   have aN:=fn ad;have bf:n=0:=by have:=bH.1;rw[aN] at this;exact this.symm
   subst bf;clear cO fn;go_wp2;refine eJ (λ_=>False) [(0,3),(1,0),(2,3),(3,3),(4,3),(5,3),(6,3),(7,3),(8,0),(9,3),(10,0),(11,3),(12,3),(13,0),(14,3),(15,3),(16,3)] ?_;refine pf ?_;refine ph ?_
   iterate 6 refine pf ?_
   refine ph ?_;refine pf ?_;refine ph ?_
   iterate 2 refine pf ?_
   refine ph ?_
   iterate 3 refine pf ?_
   refine aG ?_;go_wp2;refine wp_loop_rounds 1 ?_;rw[rounds_succ];go_wp2;generalize co:World.setCell _ _ _=Y;obtain⟨bM,bA,_⟩:=qu bj.o a4.o (Nat.le_succ _) co;obtain⟨bq,a1,a5⟩:=bM.two;clear co;refine NB (v:=.agg #[false,mi,()]) (by simp[results,Tryz.results116,go_sem,bq]) rfl ?_;exact Az
 ):p:=h
theorem wQ(h:p:=by
 refine(eh bC ln lc l r.name V.drew (cf.on (Fr.ext aC.drew)) du).mono ?_;rintro e aO ⟨rfl,ar⟩;rw[bZ.o];simp only[jq,rP];refine dY hK ?_;clear hK K
 iterate 3 refine tf ?_
 have cg:=aT.aj (Fr.aF ar);have aM:=aC.trans (Fr.aF ar);clear aT aC ar;exact key W aO ⟨aM,cg,MU _⟩
 ):p:=h
theorem BV(h:p:=by
 refine lP (P:=?P1) (ops:=?o1) (Q:=?q1) (R:=?r1) (tails:=?t1) (rest:=.pick [11] (λ_=>.free 12 (.stop))) (aa:=?aa) (C:=λdd V=>Ext W V/\an V dd 128 #[NF,(0:Int),(0:Int)]/\W.heap.size<=dd) (λkey=>?main) ?key
 case main=>
  refine a2 ?_ ?_
  ·
   refine bP rfl (λK hK=>?_) rfl;go_simp;refine(eh bC ln lc l r.name W.drew (cf.on (Fr.ext NC.drew)) du).mono ?_;rintro e aO ⟨rfl,ar⟩;rw[bZ.o];simp only[jq,rP];refine dY hK ?_;clear hK K
   iterate 3 refine tf ?_
   refine aq ?_;refine ep ?_;generalize hV:World.alloc _ _=V;have aT:=aL hV;have aC:Ext W V:=hV▸(Fr.aF ar).alloc _;exact Ex
  ·
   exact wP
 case key=>
  rintro dd V ⟨aC,b4,bd⟩;have cZ:=bD.lt;have bB:=cn.lt;obtain⟨bs,am,aK⟩:=b4.two;clear a0 ak af cA;exact fQ
 ):p:=h
end Dg
open Dg in
theorem Ho:wq:=by
 intro g l M r ca st s A n c w bx hM ba;obtain⟨I,a6,aD,e,aQ,hs⟩:=jR.1 ba;simp only[List.cons.injEq,Value.string.injEq,Value.slice.injEq,and_true] at e;obtain⟨rfl,rfl,rfl,rfl⟩:=e;obtain⟨v,J,aj⟩:=ca;have cT:=ae aj;have aV:=ae (show mG l r=⟨v.kind == 5,v.n,r.idx.map (bL l)⟩ by unfold mG;simp only[J]);obtain⟨bZ,bT,dX,bH⟩:=jl J bx hM hs;clear ba hs bx hM aj J;go_enter func116,ntmps116;go_wp2;generalize be:World.alloc _ _=W;have aF:=g0 be;have bX:=e5 be;have cy:=eT be;clear be;obtain⟨bk,cn,bD⟩:=eU aF bX cy;obtain⟨aR,bC,ln,lc,du,cA,y⟩:=bT.on aF;have cf:=ae y;obtain⟨a0,ak,af⟩:=bX.two;clear aF bX cy y;exact BU
theorem ID{X V:World}{g:Nat}{t:TypeId}{v0 v1 c0 c1:Value}(aT:an V g t #[c0,c1])(aF:Ext w V)(aR:w.heap.size<=g)(hX:(V.setCell ⟨g,0,none⟩ v0).setCell ⟨g,1,none⟩ v1=X):
  an X g t #[v0,v1]/\Ext w X/\Fr (λb=>b=g) V X:=by
 subst hX;exact⟨(aT.aK 0 v0).aK 1 v1,(aF.setCell (.inr aR) _).setCell (.inr aR) _,((Fr.refl (λb=>b=g) V).setCell (.inl rfl) _).setCell (.inl rfl) _⟩
theorem ts{u:aw}(hu:cT u){p:cR}(hp:p∈u.procs){c:aA}(hc:c∈p.code)(bD:c.op=2\/c.op=3):
  ∃q,0<=c.target/\u.procs[c.target.toNat]?=some q/\(c.places.length:Int)=q.az/\q.az<=100/\∀pl∈c.places,pl.param=true->0<=pl.index/\pl.index<p.az:=by
 obtain⟨s,hs,hl,y⟩:=(hu.procs p hp).code;rw[hs] at hc;rcases Nc.1 hc with hc|hc
 .rcases y c hc with h|h|h|h|h|h
  .omega
  .obtain⟨_,_,sg,h0,k,aN,bo,_,bh⟩:=h;simp only[bg,List.getElem?_map] at k
   cases bv:u.procs[c.target.toNat]? with
   | none=>rw[bv] at k;cases k
   | some q=>
    rw[bv] at k;injection k with k;subst k;refine⟨q,h0,rfl,bo,(hu.procs q (M4 bv)).az.2,λpl hm O=>?_⟩;have:=bh pl hm;unfold cK at this;simp_all
  .omega
  .omega
  .omega
  .omega
 .simp only[Nv] at hc;subst hc;simp[nS] at bD
namespace Eg
theorem c4(h:p:=by
 clear e0 a6 ag;generalize cl:World.setCell aW _ _=cD;have ct:=cP cl;have U:an cD W 163 #[.int .i64 c.target,.slice aL (j+1) a4]:=cl▸b7.2.1.aK 1 _;clear cl;have cN:=b7.1.cD ct (λb O _=>⟨λh=>h,ad⟩);have ah:=ay U cN (b7.2.2.trans ct);clear U cN ct;go_wp2_with(fail);go_roundw
 case rel=>
  refine⟨j+1,aL,a4,ad,by go_num,ah.2.2,ah.1,?_⟩;have:=ah.2.1;rw[bC.o j pl aq.o,<-cc.o];exact this
 case measure=>exact aH
 ):p:=h
end Eg
open Eg in
theorem qf(u:aw)(hu:cT u)(GA:NH)(gn gc:Nat)(MA:NH)(mn mc:Nat)(PA:NH)(pn pc:Nat)(x:ie)(cW:NH)(bh cY:Nat)(p:cR)(h0:0<=x.proc)(hp:u.procs[x.proc.toNat]?=some p)(aZ:(x.az.length:Int)=p.az)
  (k:Nat) (aj:k<p.code.length) (w:World) (hU:h3 w (av w) u GA gn MA mn PA pn) (hX:Sl w (av w) cW bh (x.az.map .i)) :
  Calls prog 69 #[.agg #[.slice GA gn gc,.slice MA mn mc,.slice PA pn pc,.int .i64 u.main],.agg #[.int .i64 x.proc,.slice cW bh cY],k] w
   λe ab=>∃(ok:Bool) (y:ie) (c8:NH) (da db:Nat),e=.returned (.tuple #[.agg #[.int .i64 y.proc,.slice c8 da db],ok])/\(ok=true->mw u y)/\da<=db/\Sl ab (fresh w ab) c8 da (y.az.map .i)/\Ext w ab:=by
 obtain⟨eH,dq⟩:=x;simp only at h0 hp aZ hX ⊢;obtain⟨ds,rfl⟩:=M6 h0;rw[Np] at hp;have eA:u.procs.length=pn:=by rw[<-hU.p.1,M5]
 have Ao:ds<pn:=by have:=(List.getElem?_eq_some_iff.1 hp).1;omega
 have gM:pn<=16:=by have:=hu.IJ;omega
 have bu:p.code.length<=201:=by
  obtain⟨s,hs,hl,_⟩:=(hu.procs p (M4 hp)).code;rw[hs];simp;omega
 obtain⟨cz,bb,dA,dn,ck,aI,bx⟩:=Es hu hu hU hX hp aZ aj;clear hU hX hp aZ h0 eA hu;go_enter func69,ntmps69;go_upto_region 1 with(fail);generalize be:World.alloc _ _=W;have aF:=l9 be;have aT:=kB be;have bG:=iL be;have b0:=kC be;obtain⟨bk,bL,cb,cm⟩:=jl aF aT bG b0;obtain⟨a0,ak,af⟩:=aT.two;obtain⟨bs,am,aK⟩:=bG.two;obtain⟨d0,aQ,aS⟩:=b0.two;clear be aF aT bG b0;obtain⟨bT,op,dR,S,cB,bQ,rfl,bN,cU,p0,aV,dT,p3,p4,Z,T⟩:=(dA.on bk.o).proc Ao;obtain rfl:dR=p:=by rw[ck.o] at cU;injection cU with cU;exact cU.symm
 have f2:dR.code.length=cB:=by rw[<-T.1,M5]
 have cK:k<cB:=ad;have bE:(0:Int)<=(k:Int):=ad;have ce:(k:Int)<(cB:Int):=ad;have bp:(0:Int)<=(ds:Int):=ad;have dM:(ds:Int)<(pn:Int):=ad;obtain⟨bc,bF,c,cells,eo,en,es,EA,em,ec,QA,qm,qc,IA,i,ic,KA,m,di,rfl,c6,hc,bX,bg⟩:=T.Fe cK;obtain⟨z,a8⟩:=aJ bX hc;have al:=bX.cells;subst al;have c0:=bg 0 _ rfl;have c1:=bg 1 _ rfl;have aU:=bg 11 _ rfl;have bw:=ae T;clear bg T hc cU p0 aV dT p3 f2 bX;simp only[Nd] at c0;by_cases bD:c.op=2\/c.op=3
 case neg=>
  have gv:(c.op != 2)=true:=by simp;omega
  have o3:(c.op != 3)=true:=by simp;omega
  clear bD;go_wp2_with(fail);generalize co:World.setCell _ _ _=Y;obtain⟨bM,bA,bz⟩:=ID cm.o bk.o ad co;obtain⟨bq,a1,a5⟩:=bM.two;refine NB (v:=.tuple #[.agg #[(0:Int),()],false]) (by simp[results,Tryz.results69,go_sem,bq]) rfl ?_;exact⟨false,⟨0,[]⟩,none,0,0,rfl,(λh=>by cases h),MU _,Sl.bY _,bA⟩
 case pos=>
  obtain⟨q,N,bv,H,fb,cv⟩:=ts cz.o (M4 ck.o) (M4 a8.o) bD;have hm:c.places.length=m:=by have:=z.places.1;simpa using this
  have bW:=br N bv H cv;have cr:m<=100:=ad;have dX:=ae hm;clear N bv H cv hm fb;rcases bD with bD|bD
  all_goals
   simp only[bD] at c0;clear bD;go_wp2_with(fail);generalize hV:World.alloc _ _=V;have aC:=aX hV;have gx:an V W 163 #[.int .i64 c.target,()]:=hV▸an.gF _ _ _ (by simp);have dm:W<V.heap.size:=by rw[<-hV];simp
   clear hV;obtain⟨bO,P⟩:=aJ aC gx;clear a0 ak af bs am aK d0 aQ aS aC gx;obtain⟨eE,L⟩:∃eE:Nat->List D,eE=λj=>(((c.places.take j).map λpl=>if pl.param then dq.getD pl.index.toNat 0 else pl.index).map .i):=⟨_,rfl⟩
   have a3:=ae L;have bP:eE 0=[]:=by rw[L];rfl
   have bf:∀j pl,c.places[j]?=some pl->eE (j+1)=eE j++[.i (if pl.param then dq.getD pl.index.toNat 0 else pl.index)]:=λj pl h=>by rw[L];simp only;rw[List.take_add_one,h];simp
   obtain⟨aD,bC⟩:=aJ bP bf;clear L bP bf
   try rw[show w.heap.size+1+1=w.heap.size+2 from rfl]
   generalize decide ((k:Int)<0)=aN;generalize decide (cB<=k)=ba;generalize (aN || ba)=bH;go_loopw [10] (λb5 wr=>∃(j:Nat) (c8:NH) (db:Nat),j<=m/\b5=.int .i64 j/\Fr (λb=>b=W.heap.size) V wr/\an wr W 163 #[.int .i64 c.target,.slice c8 j db]/\Gr (λ_=>False) V 3 1 wr c8 j db (eE j)) (λi _=>m - (intOf i).toNat)
   case atStart=>exact⟨0,none,0,Nq _,rfl,NC,P.o,by rw[aD.o];exact Gr.nil _ _ _ _ _⟩
   case round=>
    obtain⟨j,c8,db,bi,rfl,J,a2,aR⟩:=hrel;have R:Ext W wr:=Fr.low (M:=λb=>b=W.heap.size) ((Fr.mono bO.o λ_ h=>h.elim).trans J) λk aj=>ad;have bm:=(R.uk.1 bc (bF+k*12+11) c6).trans aU;obtain⟨P,l,bZ,I⟩:=jl a2 R J aR;have bS:W<wr.heap.size:=a2.lt;have bt:bc<wr:=M0 c6 R.size;obtain⟨e0,a6,ag⟩:=a2.two;obtain⟨bs,am,aK⟩:=(cb.aj R).two;by_cases ap:j<m
    .obtain⟨dk,gv,pl,bB,cq,bj,rfl,bn,bo,hi,q1,cL,_,_⟩:=(z.places.on (Fr.ext R)).pH ap;have bd:dq.length=bh:=by have:=dn.1;simpa using this
     have dj:=(bb.procs dR (M4 ck.o)).az.2;have aY:bh<=140737488355328:=by have:=aI.o;omega
     have aa:pl.param=true->0<=pl.index/\pl.index<bh:=λO=>by
      have ac:=bW.2.2.2 pl (M4 bo) O;have:=aI.o;omega
     have cO:(0:Int)<=(j:Int):=ad;have fq:(j:Int)<(m:Int):=ad;obtain⟨r,a9,aq⟩:=eU aY aa bo;clear J a2 aR R aU bd dj aY aa bo;go_upto_region 8 with(fail);refine eJ (λ_=>False) [(0,3),(1,0),(2,0),(3,3),(4,3),(5,3),(6,3),(7,0),(8,3),(9,3),(10,0),(11,1),(12,1),(13,2),(14,3),(15,2)] ?_;refine pf ?_
     iterate 2 refine ph ?_
     iterate 4 refine pf ?_
     refine ph ?_
     iterate 2 refine pf ?_
     refine ph ?_;refine aE rfl (λK hK=>?_);go_simp;obtain⟨v,bK⟩:∃v:Int,v=if pl.param then dq.getD pl.index.toNat 0 else pl.index:=⟨_,rfl⟩
     refine(zW ds cW bh cY dq pl [] (.slice bB cq bj) wr.drew (dn.on (Fr.ext ((bk.trans l.o).drew))) r.o a9.o).mono ?_;rintro e aO ⟨he,ar⟩;rw[<-bK] at he;subst he;have cc:=ae bK;clear bK;have aM:Ext wr aO:=Fr.aF ar;refine dB hK (ar) ?_;clear hK K;refine rS ?_;refine au rfl (λK hK=>?_);rw[if_pos (by rfl)];clear ar;have aP:=aM.size;have bI:=bZ.size;refine rA cF (.tmp 60) (.tmp 71) (by rfl) (I.aj aM) (d:=.i v) (by simp only[D.rep]) (by rfl) (by rfl) (by rfl) ad ad ad ?_;intro aL a4 aW ao aA ci b8;have aB:∀b,(Value.slice c8 j db).ownBlock=some b->V.heap.size<=b:=λb O=>(I.lt O).1;have n:=(P.aj aM).on aA (λO=>by have:=aB _ O;omega);have a7:Fr (λb=>b=W.heap.size) V aW:=by
      have c7:=bZ.size;have bl:=aA.size;exact⟨aA.os.trans (aM.os.trans bZ.os),aA.tape.trans (aM.tape.trans bZ.tape),aA.output.trans (aM.output.trans bZ.output),ad,
       λb O hn=>(aA.block b ad (λbD=>by have:=aB _ bD;omega)).trans ((aM.block b ad λh=>h).trans (bZ.block b O hn))⟩
     have b7:=ay ao n a7;clear e0 a6 ag bs am aK aM ao aA ci aB a7 hi q1 cL;obtain⟨e0,a6,ag⟩:=n.two;clear n;refine dY hK ?_;clear hK K;refine pf ?_;exact ew
    .obtain rfl:j=m:=ad;have cd:=cm.aj R;have ai:=ae cd;obtain⟨d0,aQ,aS⟩:=cd.two;clear J a2 aR R cd;go_wp2_with(fail);generalize co:World.setCell _ _ _=Y;obtain⟨bM,bA,bz⟩:=ID ai.o (bk.trans l.o) ad co;obtain⟨bq,a1,a5⟩:=bM.two;refine NB (v:=.tuple #[.agg #[.int .i64 c.target,.slice c8 j db],true]) (by simp[results,Tryz.results69,go_sem,bq]) rfl ?_;obtain⟨q1,cL,de,dc⟩:=bW.o;have bR:=bk.size;have bJ:=cm.lt;have dl:=I.cD bz (λb O _=>⟨λh=>h,ad⟩);refine⟨true,⟨c.target,c.places.map λpl=>if pl.param then dq.getD pl.index.toNat 0 else pl.index⟩,c8,j,db,rfl,λ_=>⟨q,q1,cL,by simpa using de⟩,I.cap.1,?_,bA⟩;have hS:=dl.sl (Q:=fresh w Y) (λb _ h=>h.elim) (λb ac az=>⟨ad,ac⟩);rw[a3.o] at hS;simp only at hS;rw[Nb (ax dX.o)] at hS;exact hS
end Go.Proofs.YtnigabjngpnbiabGreat

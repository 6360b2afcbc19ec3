/- Part 36 of the proof. No condition of its own. -/
import Derived.Test.YtajlmkkidmjgoaaGreatDoorQ35
namespace Go.Proofs.YtajlmkkidmjgoaaGreatDoor
open Go.RowKit Go.Proofs.Tryz
set_option maxRecDepth 1000000
set_option maxHeartbeats 25600000
set_option linter.unusedVariables false
variable{p:Prop}{ab w:World}
namespace zW
theorem lj(h:p:=by
 generalize hw:World.setCell _ _ _=wf;have aD:=bV.2;rw[hw] at aD;have bS:Fr (λb=>b=w.heap.size+1+1+1+1) Z wf:=(bV.1.mono λ_ h=>h.elim).trans (by rw[<-hw];exact(Fr.refl (λb=>b=w.heap.size+1+1+1+1) hW).setCell (.inl rfl) _);have ej:¬dm=w.heap.size+1+1+1+1:=λh=>aD.kg h.symm;have a8:=cK (a2.1.eA (bS.below a2.1.size λk ap h=>ad)) (a2.2.1.on bS ad) (a2.2.2.1.on bS ad) (a2.2.2.2.1.on bS ej) aD;clear hw aD bS ej bV be am aH;go_wp2_with(fail);go_roundw
 case rel=>exact⟨bJ+1,bP,eb,bY,cS,eQ,cU,ef,eP,_,by go_num,ad,ad,ad,ei,dV.o,by simp;omega,a8.o⟩
 case measure=>exact aF
 ):p:=h
theorem gj(h:p:=by
 refine tf ?_;refine cr ?_;generalize hX:World.setCell _ _ _=X;obtain⟨bQ,bW,bh⟩:=dG (M:=λ_=>False) [.int .i64 y.proc,.slice cv cP cR] (by rfl) b5 aS gJ hX;have d3:Sl X (av X) cv cP (y.aw.map .i):=(cu.al λb O=>bh.block b O.2.1 O.2.2).mono λb O=>Hy O.2.1 bh.size;have d2:Sl X (λb=>wr.heap.size<=b/\b<X.heap.size) cv cP (y.aw.map .i):=(cu.al λb O=>bh.block b O.2.1 O.2.2).mono λb O=>⟨O.1,Hy O.2.1 bh.size⟩
 have aV:=cK (bs.1.trans bW) (bs.2.1.aj bW) (bs.2.2.1.aj bW) (bs.2.2.2.1.aj bW) (bs.2.2.2.2.on (bW.mono λ_ h=>h.elim));have dL:=ae bQ;have cQ:=aL d3 d2 bW;clear hX bQ bh bW d3 d2 cu b5 aS bU aW bx;have bG:cs[bJ]?=some (cs[bJ]'ad):=Array.getElem?_eq_getElem ad;have eD:=ae bG
 cases ok with
 | false=>
  obtain⟨di,d9,ea⟩:=aV.2.2.2.1.two;go_wp2_with(fail);generalize cl:World.setCell _ _ _=Z;have a6:=cT cl;have bB:an Z dm 3 (cs.setIfInBounds bJ (.int .i64 (-1))):=cl▸aV.2.2.2.1.aI bJ _;have dP:w.heap.size<=dm:=dd.1;have a2:=cK (aV.1.eA (a6.below aV.1.size λk ap h=>ad)) (aV.2.1.on a6 dd.2.1) (aV.2.2.1.on a6 dd.2.2) bB (aV.2.2.2.2.on a6);clear cl a6 bB di d9 ea;go_roundw
  case rel=>exact⟨bJ+1,some ⟨de,fg,none⟩,m,cW,bE,bM,br,a0,dl,_,by go_num,ad,ad,ad,ad,dM.o,by simp;omega,a2.o⟩
  case measure=>exact aF
 | true=>
  have er:=cc rfl;have eF:=ae er;clear cc er bG;obtain⟨be,am,aH⟩:=aV.2.2.2.2.blk.two;obtain⟨bU,aW,bx⟩:=dL.two;go_wp2_with(fail);have df:∀z∈a0,z.aw.length<=1000000:=λz bi=>by
   obtain⟨q,_,bp,hl⟩:=aV.2.2.2.2.ok z bi;have:=(bv.procs q (Ia bp)).aw.2;omega
  have eE:=ae df;clear df;refine(oT _ m cW _ i bR bE bM br a0 y cv cP cR X (aV.2.2.2.2.ins.sl (λb h _=>h) (λb h _=>h)) cQ.1 ad eE.o).mono ?_;rintro e cG ⟨r,rfl,cC,c4,cj⟩;have aA:=cK (aV.1.trans cj) (aV.2.1.aj cj) (aV.2.2.1.aj cj) (aV.2.2.2.1.aj cj) (aV.2.2.2.2.on (cj.mono λ_ h=>h.elim));have cA:=ae (dL.aj cj);have eY:=(cQ.2.2.trans cj).size;have cE:=ai (cQ.1.on (Fr.ext cj)) ((cQ.2.1.al λb O=>cj.block b O.2 λh=>h).mono λb O=>(⟨O.1,Hy O.2 cj.size⟩:wr.heap.size<=b/\b<cG.heap.size));clear aV dL cQ cj be am aH bU aW bx cC c4;obtain⟨be,am,aH⟩:=aA.2.2.2.2.blk.two;obtain⟨bU,aW,bx⟩:=cA.two;rcases Int.lt_or_le r 0 with aY|aY
  have eO:decide (r<0)=true:=by simpa using aY
  clear aY;have dg:=bs.2.2.2.2;have dy:=dg.blk.lt;have hD:(e7 y).rep cG (kJ (λb=>b≠w.heap.size+1+1+1+1/\(Value.slice S i bR).ownBlock≠some b/\¬b=dm) cG (.slice (some ⟨de,fg,none⟩) m cW)) [.int .i64 y.proc,.slice cv cP cR]:=
   j8.2 ⟨cv,cR,cP,rfl,bX,cE.2.mono λb O=>⟨⟨by have:=O.1;omega,λh=>by have:=(dg.cl b h).2;have:=O.1;omega,λh=>by have:=dg.kl b h;have:=O.1;omega⟩,O.2,λh=>by have:=(dg.ins.lt h).2;have:=O.1;omega⟩⟩
  have dj:∀b,(Value.slice (some ⟨de,fg,none⟩) m cW).ownBlock=some b->b<wr.heap.size:=λb O=>(dg.ins.lt O).2;obtain⟨eK,ee⟩:=aN hD dj;have ag:w.heap.size+1+1<=cG.heap.size:=ad;clear dg dy hD dj;go_upto_region 19 with(at_builtin;refine bN EI rfl (.tmp 77) (.tmp 79) rfl aA.2.2.2.2.ins eK.o rfl rfl rfl ad ad ag ?_;intro bP bY cz d7 cJ d8 eL;have a1:=aL d7 cJ d8;have cn:=aA.2.2.2.2.blk.on cJ (λO=>(aA.2.2.2.2.ig _ O).1 rfl);clear be am aH bU aW bx d7 cJ d8 eL;obtain⟨be,am,aH⟩:=cn.two;clear cn);have a7:=aA.2.2.2.2.Gz eF.o a1.1 a1.2.1 a1.2.2;have cJ:=a1.2.1;have dz:=aA.2.2.2.2.ig;have b0:(a0++[y])[i]?=some ⟨dc,c5⟩:=by rw[List.getElem?_append_left (List.getElem?_eq_some_iff.1 dM.o).1];exact dM.o
  have bZ:∀v,Fr (λb=>b=w.heap.size+1+1+1+1) cz (cz.setCell ⟨w.heap.size+1+1+1+1,0,none⟩ v):=λv=>(Fr.refl (λb=>b=w.heap.size+1+1+1+1) cz).setCell (.inl rfl) v;have dj:=ee.o;have cO:∀v,Fr (λb=>b=w.heap.size+1+1+1+1\/(Value.slice (some ⟨de,fg,none⟩) m cW).ownBlock=some b) cG (cz.setCell ⟨w.heap.size+1+1+1+1,0,none⟩ v):=λv=>(cJ.mono λ_ h=>.inr h).trans ((bZ v).mono λ_ h=>.inl h);have da:=λb (O:(Value.slice (some ⟨de,fg,none⟩) m cW).ownBlock=some b)=>(aA.2.2.2.2.ins.lt O).1;have cg:=bs.2.2.2.2.blk.lt;have bb:¬(a4=w.heap.size+1+1+1+1\/(Value.slice (some ⟨de,fg,none⟩) m cW).ownBlock=some a4):=by
   rintro(h|h)
   .omega
   .have:=dj _ h;omega
  have dD:¬(w.heap.size=w.heap.size+1+1+1+1\/(Value.slice (some ⟨de,fg,none⟩) m cW).ownBlock=some w.heap.size):=by
   rintro(h|h)
   .omega
   .have:=da _ h;omega
  have dC:¬(w.heap.size+1=w.heap.size+1+1+1+1\/(Value.slice (some ⟨de,fg,none⟩) m cW).ownBlock=some (w.heap.size+1)):=by
   rintro(h|h)
   .omega
   .have:=da _ h;omega
  have ep:¬(dm=w.heap.size+1+1+1+1\/(Value.slice (some ⟨de,fg,none⟩) m cW).ownBlock=some dm):=by
   rintro(h|h)
   .exact aA.2.2.2.2.kg h.symm
   .exact(dz _ h).2.2 rfl
  have eq:Sl (cz.setCell ⟨w.heap.size+1+1+1+1,0,none⟩ (.slice bP (m+1) bY)) (av (cz.setCell ⟨w.heap.size+1+1+1+1,0,none⟩ (.slice bP (m+1) bY))) cv cP (y.aw.map .i):=
   (cE.2.al λb O=>(cO _).block b O.2 (by
    rintro(h|h)
    .have:=O.1;omega
    .have:=dj _ h;have:=O.1;omega)).mono λb O=>Hy O.2 (cO (.slice bP (m+1) bY)).size
  have cY:Ext w (cz.setCell ⟨w.heap.size+1+1+1+1,0,none⟩ (.slice bP (m+1) bY)):=aA.1.eA ((cO _).below aA.1.size (by
   rintro k ap (h|h)
   .omega
   .have:=da _ h;omega))
  have aT:=DF (show m+1<=st+bJ+1+1 by omega) (show i<m+1 by omega) b0 cY (aA.2.1.on (cO (.slice bP (m+1) bY)) dD) (aA.2.2.1.on (cO (.slice bP (m+1) bY)) dC) (aA.2.2.2.1.on (cO (.slice bP (m+1) bY)) ep) a7 (cA.on (cO (.slice bP (m+1) bY)) bb) eq;clear b0 bZ dj cO da cg bb dD dC ep eq cY a7 cJ dz aA cA cE a1 ee eK be am aH ag;revert aT;generalize World.setCell _ _ _=fn;generalize m+1=eb;generalize a0++[y]=ef;intro aT
  rotate_left
  have eO:decide (r<0)=false:=by simpa using aY
  clear aY;go_upto_region 19 with(fail);have aT:=DF (show m<=st+bJ+1+1 by omega) (show i<m by omega) dM.o aA.1 aA.2.1 aA.2.2.1 aA.2.2.2.1 aA.2.2.2.2 cA.o cE.1;clear aA cA cE be am aH bU aW bx;revert aT;generalize cG=fn;generalize cW=bY;generalize m=eb;generalize a0=ef;generalize (some ⟨de,fg,none⟩:IP)=bP;intro aT
  rotate_left
  all_goals
   obtain⟨e5,ei,b0,cY,dO,dN,dw,a7,cf,d5⟩:=aT.o;obtain⟨be,am,aH⟩:=a7.blk.two;obtain⟨bU,aW,bx⟩:=cf.two;clear b0 cY dO dN dw a7 cf d5;go_wp2_with(fail);have df:∀z∈ef,z.aw.length<=1000000:=λz bi=>by
    obtain⟨q,_,bp,hl⟩:=aT.2.2.2.2.2.2.2.1.ok z bi;have:=(bv.procs q (Ia bp)).aw.2;omega
   refine(oT bP eb bY S i bR bE bM br ef y cv cP cR fn (aT.2.2.2.2.2.2.2.1.ins.sl (λb h _=>h) (λb h _=>h)) aT.2.2.2.2.2.2.2.2.2 ad df).mono ?_;rintro e hf ⟨fZ,rfl,b6,bz,bw⟩;clear be am aH bU aW bx df b6 bz;obtain⟨_,_,b0,cY,dO,dN,dw,a7,cf,d5⟩:=aT.o;obtain⟨di,d9,ea⟩:=(dw.aj bw).two;have bG:=eD.o;have dU:=eU b0 (cY.trans bw) (dO.aj bw) (dN.aj bw) (dw.aj bw) (a7.on (bw.mono λ_ h=>h.elim));clear b0 cY dO dN dw a7 cf d5 bw aT;go_upto_region 20 with(fail);generalize cl:World.setCell _ _ _=Z;have a6:=cT cl;have bB:an Z dm 3 (cs.setIfInBounds bJ (.int .i64 fZ)):=cl▸dU.2.2.2.2.1.aI bJ _;have dP:w.heap.size<=dm:=dd.1;have bl:Ext w Z:=dU.2.1.eA (a6.below dU.2.1.size λk ap h=>ad);have a2:=cK bl (dU.2.2.1.on a6 dd.2.1) (dU.2.2.2.1.on a6 dd.2.2) bB (dU.2.2.2.2.2.on a6);have dV:=ae dU.1;clear cl a6 bB di d9 ea dP dU bG;obtain⟨bc,bL,c,cells,eo,en,es,EA,em,ec,QA,qm,qc,fc,fe,fa,KA,ez,e8,eI,cx,hc,cw,a3⟩:=dn.Bi b3;have bo:=cw.cells;subst bo eI;have c0:=(bl.rP.1 bc (bL+bJ*12+0) cx).trans (a3 0 _ rfl);simp only[Ij] at c0;clear a3 cw hc bl;by_cases bu:c.op=3
   .rw[bu] at c0;clear bu;have bG:Z.cell? ⟨dm,bJ,none⟩=some (.int .i64 fZ):=by
     rw[a2.2.2.2.1.cell,Array.getElem?_setIfInBounds_self_of_lt ad]
    obtain⟨gw,g8,eM,_⟩:=a2.2.2.2.2.E9.some_ a2.2.2.2.2.uR;subst eM;obtain⟨be,am,aH⟩:=a2.2.2.2.2.blk.two;have eW:=a2.2.2.2.1.lt;have eh:bc<Z.heap.size:=Hy cx a2.1.size;go_upto_region 21 with(fail);refine eB (λ_=>False) [(0,3),(1,0),(2,3),(3,3),(4,3),(5,0),(6,2),(7,3),(8,2)] ?_;refine pf ?_;refine ph ?_
    iterate 3 refine pf ?_
    refine ph ?_;refine au rfl (λK hK=>?_);go_simp;refine(Cp _ gw g8 bM br dl fZ Z.drew (a2.2.2.2.2.on IK.drew).E9 (λb O=>O.1) ad a2.2.2.2.2.xv a2.2.2.2.2.uR).mono ?_;rintro e hW ⟨cS,eQ,cU,eP,rfl,dQ,b6,dR,b8,cL⟩;have du:Ext Z hW:=Fr.aJ cL;have f2:=a2.2.2.2.2.blk.aj du;clear be am aH c0 bG;obtain⟨be,am,aH⟩:=f2.two;have aD:=gT.GV (a2.2.2.2.2.on IK.drew) rfl b8 cL dQ dR;have bV:=ai du aD;clear b8 cL du f2 aD;exact lh
   .have dk:(c.op == 3)=false:=by simpa using bu
    clear bu;have eh:bc<Z.heap.size:=Hy cx a2.1.size;go_wp2_with(fail);go_roundw
    case rel=>exact⟨bJ+1,bP,eb,bY,bE,bM,br,ef,dl,_,by go_num,ad,ad,ad,ei,dV.o,by simp;omega,a2.o⟩
    case measure=>exact aF
 ):p:=h
end zW
open zW in
theorem wV(u:ax)(hu:cZ u)(GA:IP)(gn gc:Nat)(MA:IP)(mn mc:Nat)(PA:IP)(pn pc:Nat)(w:World)(hU:gW w (av w) u GA gn MA mn PA pn) :
  Calls prog 18 #[.agg #[.slice GA gn gc,.slice MA mn mc,.slice PA pn pc,.int .i64 u.main]] w
   λe ab=>∃(ey:IP) (n0 c0:Nat) (cF:IP) (n1 c1:Nat) (A2:IP) (cd c2:Nat) (k:Int),e=.returned (.tuple #[.agg #[.slice ey n0 c0,.slice cF n1 c1,.slice A2 cd c2],.int .i64 k])/\Ext w ab:=by
 have ek:u.procs.length=pn:=by rw[<-hU.p.1,Ib]
 have gI:pn<=16:=by have:=hu.El;omega
 obtain⟨bv,dr⟩:=aN hu hU;obtain⟨mp,bq,cH,_,ck⟩:=hu.main;have eV:=ae (show lA u ⟨u.main,[]⟩ from ⟨mp,bq,cH,by simp[ck]⟩);clear hU hu bq cH ck;go_enter func18,ntmps18;go_wp2_with(fail);generalize ba:World.alloc _ _=W;have aw:Ext w W:=ba▸((((IK.alloc _).alloc _).alloc _).alloc _).alloc _;have bn:an W w.heap.size 30 #[.slice GA gn gc,.slice MA mn mc,.slice PA pn pc,.int .i64 u.main]:=ba▸((((IL).alloc _).alloc _).alloc _).alloc _;have bC:an W (w.heap.size+1) 34 #[.slice none 0 0,.slice none 0 0,.slice none 0 0]:=ba▸(((an.fu _ _ _ (by simp)).alloc _).alloc _).alloc _;have aC:gT u (w.heap.size+1+1+1+1) (w.heap.size+1+1) (λ_=>False) W (some ⟨w.heap.size+1+1,0,none⟩) 1 1 none 0 0 (some ⟨w.heap.size+1+1+1,0,none⟩) 1 1 [⟨u.main,[]⟩] [0]:=by
  have dt:an W (w.heap.size+1+1+1) 3 #[.int .i64 0]:=ba▸(an.fu _ _ _ (by simp)).alloc _;have hl:=dt.lt;refine⟨by rw[<-ba];exact an.fu _ _ _ (by simp),?_,?_,⟨[],⟨by simp,.inl ⟨rfl,rfl⟩⟩⟩,?_,ad,Hx _,λb O=>?_,λb O=>(by cases O),λh=>h,λ_ h=>h.elim⟩
  .have ac:=Gr.lit (P:=λb=>b≠w.heap.size+1+1+1+1/\(Value.slice none 0 0).ownBlock≠some b/\¬False) (w:=(w.alloc (.cells #[.slice GA gn gc,.slice MA mn mc,.slice PA pn pc,.int .i64 u.main] 30)).alloc (.cells #[.slice none 0 0,.slice none 0 0,.slice none 0 0] 34))
    (e:=122) (z:=2) (n:=1) (cs:=#[.int .i64 u.main,.slice none 0 0]) (l:=[e7 ⟨u.main,[]⟩]) rfl rfl ad (D.bo.2 (j8.2 ⟨none,0,0,rfl,Hx _,Sl.bH _⟩))
   simp only[World.size_alloc] at ac;rw[<-ba];exact ac.aj ((IK.alloc _).alloc _)
  .intro x hx;simp only[ID] at hx;subst hx;exact eV.o
  .exact Sl.ru dt (D.bo.2 (by simp only[D.rep])) ⟨hl,ad,by simp[Value.ownBlock],by simp[Value.ownBlock],λh=>h⟩ rfl
  .simp only[Value.ownBlock,IE] at O;refine⟨ad,by simp[Value.ownBlock],λh=>h⟩
 have dp:=bF aw bn bC aC;clear ba aw bn bC aC eV;go_loopw [5,6] (λsv ci wr=>∃(i st:Nat) (IA:IP) (n ic:Nat) (S:IP) (bR:Nat) (ce:IP) (bO rc:Nat) (L:List g7) (b7:List Int),sv=.int .i64 st/\ci=.int .i64 i/\i<=256/\st<=8000/\n<=st+1/\bO<=st+1/\i<=n/\
  Ext w wr/\an wr w.heap.size 30 #[.slice GA gn gc,.slice MA mn mc,.slice PA pn pc,.int .i64 u.main]/\an wr (w.heap.size+1) 34 #[.slice none 0 0,.slice none 0 0,.slice none 0 0]/\gT u (w.heap.size+1+1+1+1) (w.heap.size+1+1) (λ_=>False) wr IA n ic S i bR ce bO rc L b7) (λ_ ci _=>257 - (intOf ci).toNat)
 case atStart=>exact⟨0,0,_,_,_,_,_,_,_,_,_,_,rfl,rfl,ad,ad,ad,ad,ad,dp.1,dp.2.1,dp.2.2.1,dp.2.2.2⟩
 case round=>
  obtain⟨i,st,IA,n,ic,S,bR,ce,bO,rc,L,b7,rfl,rfl,ak,b1,hn,eN,U,aw,bn,bC,aC⟩:=hrel;clear dp;have bs:=bF aw bn bC aC;obtain⟨aI,aj,af⟩:=bn.two;obtain⟨be,am,aH⟩:=aC.blk.two;by_cases al:i<n
  .have gK:(0:Int)<=(i:Int):=ad;have c7:(i:Int)<(n:Int):=ad;have dx:Sl wr (av wr) IA n (L.map e7):=aC.ins.sl (λb h _=>h) (λb h _=>h);obtain⟨b,o,x,cy,cp,cD,c8,ao,hx,c0,c1,ah,bf⟩:=dx.um al;obtain⟨p,h0,hp,aX⟩:=aC.ok x (Ia hx);obtain⟨ex,c5⟩:=x;simp only at h0 hp aX c0 bf;obtain⟨dc,rfl⟩:=Ic h0;rw[Iw] at hp;have Bh:dc<pn:=by have:=(List.getElem?_eq_some_iff.1 hp).1;omega
   have ch:(0:Int)<=(dc:Int):=ad;have dH:(dc:Int)<(pn:Int):=ad;obtain⟨pb,gO,c3,fb,aZ,e9,rfl,eJ,bH,p0,aR,eA,eC,et,eZ,dE⟩:=dr.proc Bh;have et:=(aw.rP.1 pb (gO+dc*5+4) eJ).trans et;have eJ:pb<wr.heap.size:=Hy eJ aw.size;obtain rfl:c3=p:=by rw[hp] at bH;injection bH with bH;exact bH.symm
   subst c8;have gq:c3.code.length=aZ:=by rw[<-dE.1,Ib]
   have bd:aZ<=201:=by
    obtain⟨s,hs,hl,_⟩:=(bv.procs c3 (Ia hp)).code;have:c3.code.length<=201:=by rw[hs];simp;omega
    omega
   have b9:=aL hp aX hx;have dn:=ae dE;clear aw bn bC aC dx hx hp aX bH bf dE p0 aR eA eC ah c1;go_upto_region 6 with(fail);refine eB (λ_=>False) [(0,3),(1,0),(2,3),(3,0),(4,3),(5,3),(6,3),(7,0),(8,3),(9,3),(10,0),(11,3)] ?_;refine pf ?_;refine ph ?_;refine pf ?_;refine ph ?_
   iterate 3 refine pf ?_
   refine ph ?_
   iterate 2 refine pf ?_
   refine ph ?_;refine pf ?_;refine aB ?_;have cM:gT u (w.heap.size+1+1+1+1) (w.heap.size+1+1) (λ_=>False) wr.drew (some ⟨b,o,none⟩) n ic S i bR ce bO rc L b7:=bs.2.2.2.on IK.drew;have dY:=bs.2.2.1.drew;have dX:=bs.2.1.drew;have aJ:Ext w wr.drew:=bs.1.drew;replace bs:=bF aJ dX dY cM
   clear aI aj af be am aH c0 et;clear aJ dX dY cM;have dh:b<wr.drew.heap.size:=ao;clear eJ ao;revert bs dh;generalize wr.drew=wd;intro bs dh;obtain⟨d0,aP,aQ⟩:=bs.2.2.1.two;by_cases eR:i<256
   case neg=>
    have q1:decide ((i:Int)>=256)=true:=by simp;omega
    exact DO
   have q1:decide ((i:Int)>=256)=false:=by simp;omega
   by_cases eG:st+aZ<=8000
   case neg=>
    have dq:decide ((st:Int)+aZ > 8000)=true:=by simp;omega
    exact DO
   have dq:decide ((st:Int)+aZ > 8000)=false:=by simp;omega
   have el:=λW=>run_mk (P:=prog) dT .i64 .i64 aZ ad ad W;clear d0 aP aQ;go_wp2_with(fail);clear el;generalize hV:World.alloc _ _=V;have bg:=bm hV;have bK:=aU hV;have cq:(madeCells #[.int .i64 0] aZ).size=aZ:=size_madeCells _ _;have cX:=eU cq (bs.1.trans bg) (bs.2.1.aj bg) (bs.2.2.1.aj bg) bK (bs.2.2.2.apart bg (Hx _) bK.lt);clear hV bg bK cq;generalize madeCells #[.int .i64 0] aZ=fd at cX;have dd:=ae (show w.heap.size<=wd.heap.size/\¬w.heap.size=wd.heap.size/\¬w.heap.size+1=wd.heap.size by
    have:=bs.2.2.1.lt;omega)
   clear bs;generalize wd.heap.size=dm at *;have e4:=ai hn eN;go_loopw [9] (λeu dJ=>∃(bJ:Nat) (db:IP) (m cW:Nat) (bE:IP) (bM br:Nat) (a0:List g7) (dl:List Int) (cs:Array Value),eu=.int .i64 bJ/\bJ<=aZ/\m<=st+bJ+1/\bM<=st+bJ+1/\i<m/\a0[i]?=some ⟨dc,c5⟩/\
    cs.size=aZ/\Ext w dJ/\an dJ w.heap.size 30 #[.slice GA gn gc,.slice MA mn mc,.slice (some ⟨pb,gO,none⟩) pn pc,.int .i64 u.main]/\an dJ (w.heap.size+1) 34 #[.slice none 0 0,.slice none 0 0,.slice none 0 0]/\
    an dJ dm 3 cs/\gT u (w.heap.size+1+1+1+1) (w.heap.size+1+1) (λb=>b=dm) dJ db m cW S i bR bE bM br a0 dl) (λeu _=>aZ - (intOf eu).toNat)
   case atStart=>exact⟨0,_,_,_,_,_,_,_,_,_,rfl,ad,ad,ad,al,b9.2.2,cX.o⟩
   case round=>
    obtain⟨bJ,db,m,cW,bE,bM,br,a0,dl,cs,rfl,dF,hm,aE,dB,d4,T,aw,bn,bC,bK,aC⟩:=hrel;clear cX;have bs:=cK aw bn bC bK aC;obtain⟨aI,aj,af⟩:=bn.two;obtain⟨be,am,aH⟩:=aC.blk.two;by_cases b3:bJ<aZ
    .have e0:(bJ:Int)<(aZ:Int):=ad;have eX:(i:Int)<(m:Int):=ad;have dx:Sl wr (av wr) db m (a0.map e7):=aC.ins.sl (λb h _=>h) (λb h _=>h);obtain⟨de,fg,ay,eg,ew,ev,eH,eS,b4,c0,c1,e3,dI⟩:=dx.um dB;obtain rfl:ay=⟨dc,c5⟩:=by rw[d4] at b4;injection b4 with b4;exact b4.symm
     subst eH;simp only at c0 dI;obtain⟨cV,dM⟩:=aN dI d4;clear dI b4 dx aw bn bC bK aC d4;go_upto_region 14 with(fail);refine sU (λ_=>False) [12] (.held 0 (.free 1 (.held 2 (.free 3 (.free 4 (.held 5 (.free 6 (.pick [7,11] (λi=>bif i == 7 then .free 8 (.free 9 (.free 10 (.pick [11] (λ_=>.pick [12] (λ_=>.free 13 (.stop)))))) else .pick [7] (λ_=>.free 8 (.free 9 (.free 10 (.pick [12] (λ_=>.free 13 (.stop))))))))))))))) ?_;refine th ?_;refine tf ?_;refine th ?_
     iterate 2 refine tf ?_
     refine th ?_;refine tf ?_;have e6:∀k,k<wr.heap.size->k<wr.drew.heap.size:=λ_ h=>h;refine jH (P:=?pO) (ops:=?F9) (Q:=?Gb) (R:=?Gc) (tails:=?Gh) (rest:=.pick [12] (λ_=>.free 13 (.stop))) (aa:=?FM)
      (C:=λ(a4:Nat) (ok:Bool) (Y:Value) gm=>Ext wr gm/\an gm a4 122 #[.int .i64 0,.slice none 0 0]/\wr.heap.size<=a4/\∃(y:g7) (cv:IP) (cP cR:Nat),Y=.agg #[.int .i64 y.proc,.slice cv cP cR]/\(ok=true->lA u y)/\cP<=cR/\Sl gm (λb=>wr.heap.size<=b/\b<gm.heap.size/\b≠a4) cv cP (y.aw.map .i)) (λkey=>?Bx) ?Bm
     case Bx=>
      refine a5 ?_ ?_
      ·
       refine aG rfl (λK hK=>?_) rfl;go_simp;refine(oF u bv.o GA gn gc MA mn mc (some ⟨pb,gO,none⟩) pn pc ⟨dc,c5⟩ eg ew ev c3 ch b9.1 b9.2.1 bJ ad wr.drew (dr.on bs.1.drew) (cV.on (Fr.ext IK.drew))).mono ?_;rintro e aO ⟨ok,y,cv,cP,cR,rfl,cc,bX,cu,ar⟩;refine dA hK (ar) ?_;clear hK K
       iterate 3 refine tf ?_
       refine aq ?_;refine dS ?_;generalize cl:World.alloc _ _=Z;have e2:=bm cl;have b6:wr.heap.size<=aO.heap.size:=ar.size;have F:Ext wr Z/\an Z aO.heap.size 122 #[.int .i64 0,.slice none 0 0]/\wr.heap.size<=aO.heap.size/\∃(ed:g7) (ds:IP) (c9 dK:Nat),(Value.agg #[.int .i64 y.proc,.slice cv cP cR])=.agg #[.int .i64 ed.proc,.slice ds c9 dK]/\(ok=true->lA u ed)/\c9<=dK/\Sl Z (λb=>wr.heap.size<=b/\b<Z.heap.size/\b≠aO.heap.size) ds c9 (ed.aw.map .i):=
        ⟨(Fr.aJ ar).trans e2,by rw[<-cl];exact IL,b6,y,cv,cP,cR,rfl,cc,bX,(cu.al λb O=>e2.block b O.2 λh=>h).mono λb O=>⟨O.1,Hy O.2 e2.size,by have:=O.2;omega⟩⟩
       clear cl e2 b6 ar cu cc bX;revert F;generalize aO.heap.size=a4;generalize (Value.agg #[.int .i64 y.proc,.slice cv cP cR])=Y;intro F;exact key a4 ok Y _ F
      ·
       refine dS ?_;generalize hV:World.drew (World.alloc _ _)=cb;have e1:=gX hV;have co:=lU hV;have b6:=co.lt;refine aq ?_;refine aG rfl (λK hK=>?_) rfl;go_simp;refine(oF u bv.o GA gn gc MA mn mc (some ⟨pb,gO,none⟩) pn pc ⟨dc,c5⟩ eg ew ev c3 ch b9.1 b9.2.1 bJ ad cb (dr.on (bs.1.trans e1)) (cV.on (Fr.ext e1))).mono ?_;rintro e aO ⟨ok,y,cv,cP,cR,rfl,cc,bX,cu,ar⟩;refine dA hK (ar) ?_;clear hK K
       iterate 3 refine tf ?_
       have F:Ext wr aO/\an aO wr.heap.size 122 #[.int .i64 0,.slice none 0 0]/\wr.heap.size<=wr.heap.size/\∃(ed:g7) (ds:IP) (c9 dK:Nat),(Value.agg #[.int .i64 y.proc,.slice cv cP cR])=.agg #[.int .i64 ed.proc,.slice ds c9 dK]/\(ok=true->lA u ed)/\c9<=dK/\Sl aO (λb=>wr.heap.size<=b/\b<aO.heap.size/\b≠wr.heap.size) ds c9 (ed.aw.map .i):=
        ⟨e1.trans ar,co.aj ar,Hx _,y,cv,cP,cR,rfl,cc,bX,cu.mono λb O=>⟨by have:=O.1;omega,O.2,by have:=O.1;omega⟩⟩
       clear hV e1 co b6 ar cu cc bX;revert F key;generalize (Value.agg #[.int .i64 y.proc,.slice cv cP cR])=Y;intro key F;exact key wr.heap.size ok Y _ F
     case Bm=>
      rintro a4 ok Y gm ⟨aS,b5,gJ,y,cv,cP,cR,rfl,cc,bX,cu⟩;obtain⟨bU,aW,bx⟩:=b5.two;clear aI aj af be am aH c0 c1;exact gY
    .obtain rfl:bJ=aZ:=ad;obtain⟨xs,dZ⟩:=aC.EO;have d1:∀u∈(#[Value.slice (some ⟨dm,0,none⟩) bJ bJ]:Array Value).toList,u.oneCell'=true:=λu hu=>by
      simp only[ID] at hu;subst hu;rfl
     have ag:w.heap.size+1+1<=wr.heap.size:=by have:=aC.blk.lt;omega
     clear aw bn bC bK aC;go_wp2_with(at_builtin;refine cI _ EM rfl (.tmp 103) (.tmp 105) rfl (w.heap.size+1+1) _ i xs _ rfl dZ rfl rfl d1 ad ad ag ?_;intro v1 aO az bT cm;obtain⟨cB,cN,d6,eT,_⟩:=bI az;subst d6;have N:Fr (λb=>(Value.slice S i bR).ownBlock=some b) wr aO:=IK.grown bT (λg aM=>.inl aM);have co:=bs.2.2.2.2.blk.on N (λO=>(bs.2.2.2.2.cg _ O).1 rfl);have ct:c6 wr S i bR cB (i+1) cN:=(λb O=>cm.elim (λh=>.inl (h▸O)) (λh=>.inr (by rw[h] at O;injection O with O;omega)));have b2:=aL az N ct;clear be am aH az bT cm N ct dZ d1;obtain⟨be,am,aH⟩:=co.two;clear co);generalize hw:World.setCell _ _ _=wf;have aD:=(bs.2.2.2.2.Gy b2.1 b2.2.1 b2.2.2).free;rw[hw] at aD;have bd:=bs.2.2.2.2.cl;have bS:Fr (λb=>b=w.heap.size+1+1+1+1\/(Value.slice S i bR).ownBlock=some b) wr wf:=(b2.2.1.mono λ_ h=>.inr h).trans (by rw[<-hw];exact(Fr.refl (λb=>b=w.heap.size+1+1+1+1\/(Value.slice S i bR).ownBlock=some b) aO).setCell (.inl (.inl rfl)) _);have dD:¬(w.heap.size=w.heap.size+1+1+1+1\/(Value.slice S i bR).ownBlock=some w.heap.size):=by
      rintro(h|h)
      .omega
      .have:=(bd _ h).1;omega
     have dC:¬(w.heap.size+1=w.heap.size+1+1+1+1\/(Value.slice S i bR).ownBlock=some (w.heap.size+1)):=by
      rintro(h|h)
      .omega
      .have:=(bd _ h).1;omega
     have dv:Ext w wf:=bs.1.eA (bS.below bs.1.size (by
      rintro k ap (h|h)
      .omega
      .have:=(bd _ h).1;omega))
     have a8:=bF dv (bs.2.1.on bS dD) (bs.2.2.1.on bS dC) aD;clear hw aD bd bS dD dC dv bs b2 be am aH;go_roundw
     case rel=>exact⟨i+1,st+bJ,db,m,cW,cB,cN,bE,bM,br,a0,dl,by go_num,by go_num,ad,ad,ad,ad,ad,a8.o⟩
     case measure=>exact aF
  .obtain rfl:i=n:=ad;clear aw bn aC;obtain⟨d0,aP,aQ⟩:=bC.two;clear bC;go_wp2_with(fail);generalize ca:World.setCell _ _ _=Y;obtain⟨bk,bt,bj⟩:=dG (M:=λ_=>False) [.slice IA i ic,.slice S i bR,.slice ce bO rc] (by rfl) bs.2.2.1 (w:=w) bs.1 ad ca;obtain⟨bD,aK,a9⟩:=bk.two;refine IJ (v:=.tuple #[.agg #[.slice IA i ic,.slice S i bR,.slice ce bO rc],.int .i64 0]) (by simp[results,Tryz.results18,go_sem,bD]) rfl ?_;exact⟨_,_,_,_,_,_,_,_,_,_,rfl,bt⟩
def j1(w:World)(L:List Int)(e:Ending)(ab:World):Prop:=∃A c,e=.returned (.slice A L.length c)/\L.length<=c/\cJ (EF cD) 1 ab ab.heap.size A L.length L/\Ext w ab
theorem j1.own{L:List Int}{v:Value}{B n:Nat}(hn:L.length=n)(h:ab.ownsRow B 3 1 v n (L.flatMap cD))(he:Ext w ab):j1 w L (.returned v) ab:=by
 subst hn;obtain⟨cF,c1,rfl,a6,_,_,_⟩:=bI h;exact⟨cF,c1,rfl,a6,jb h (me _) rfl,he⟩
theorem j1.nil(he:Ext w ab):j1 w [] (.returned (.slice none 0 0)) ab:=j1.own (B:=0) rfl (World.ownsRow_nil _ _ _ _) he
def oH(l:List Int)(k:Nat):List Int:=((List.range k).map Int.ofNat).filter λt=>decide (0<=ib l (l.length+1) t)
section
variable {l:List Int} {t:Int} {k:Nat}
theorem CH(h:0<=ib l (l.length+1) (k:Int)):oH l (k+1)=oH l k++[(k:Int)]:=by
 exact yi
theorem CG(h:¬0<=ib l (l.length+1) (k:Int)):oH l (k+1)=oH l k:=by
 exact yi
end
end Go.Proofs.YtajlmkkidmjgoaaGreatDoor

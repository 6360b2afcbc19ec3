/- Part 43 of the proof. No condition of its own. -/
import Derived.Test.YtkhnkojkplbioaaGreatQ34
import Derived.Test.YtkhnkojkplbioaaGreatQ35
namespace Go.Proofs.YtkhnkojkplbioaaGreat
open Go.RowKit Go.Proofs.Tryz
set_option maxRecDepth 1000000
set_option maxHeartbeats 25600000
set_option linter.unusedVariables false
variable{p:Prop}
namespace Dm
theorem dE(h:p:=by
 generalize hw:World.setCell _ _ _=wf;have S:=bX.2;rw[hw] at S;have bI:Fr (λb=>b=w.heap.size+1+1+1+1) Z wf:=(bX.1.mono λ_ h=>h.elim).trans (by rw[<-hw];exact(Fr.refl (λb=>b=w.heap.size+1+1+1+1) hT).setCell (.inl rfl) _);have ev:¬dj=w.heap.size+1+1+1+1:=λh=>S.kg h.symm;have a3:=cJ (bh.1.eR (bI.below bh.1.size λk ap h=>ad)) (bh.2.1.on bI ad) (bh.2.2.1.on bI ad) (bh.2.2.2.1.on bI ev) S;clear hw S bI ev bX a7 am aF;go_wp2_with(fail);go_roundw
 case rel=>exact⟨ak+1,bi,ei,bP,cA,eV,cI,ep,eS,_,by go_num,ad,ad,ad,eu,d6.o,by simp;omega,a3.o⟩
 case measure=>exact aH
 ):p:=h
theorem eU(h:p:=by
 refine tf ?_;refine b9 ?_;generalize hX:World.setCell _ _ _=X;obtain⟨br,bs,cz⟩:=dY (M:=λ_=>False) [.int .i64 y.proc,.slice aY cP cZ] (by rfl) bC co gt hX;have eb:Sl X (av X) aY cP (y.au.map .i):=(cV.al λb O=>cz.block b O.2.1 O.2.2).mono λb O=>Ll O.2.1 cz.size;have ea:Sl X (λb=>wr.heap.size<=b/\b<X.heap.size) aY cP (y.au.map .i):=(cV.al λb O=>cz.block b O.2.1 O.2.2).mono λb O=>⟨O.1,Ll O.2.1 cz.size⟩
 have aQ:=cJ (bq.1.trans bs) (bq.2.1.aj bs) (bq.2.2.1.aj bs) (bq.2.2.2.1.aj bs) (bq.2.2.2.2.on (bs.mono λ_ h=>h.elim));have dW:=ae br;have df:=aE eb ea bs;clear hX br cz bs eb ea cV bC co bx a5 aT;have b6:cs[ak]?=some (cs[ak]'ad):=Array.getElem?_eq_getElem ad;have eH:=ae b6
 cases ok with
 | false=>
  obtain⟨c8,dp,ds⟩:=aQ.2.2.2.1.two;go_wp2_with(fail);generalize bF:World.setCell _ _ _=Z;have bg:=cO bF;have bk:aq Z dj 3 (cs.setIfInBounds ak (.int .i64 (-1))):=bF▸aQ.2.2.2.1.aM ak _;have d2:w.heap.size<=dj:=dy.1;have bh:=cJ (aQ.1.eR (bg.below aQ.1.size λk ap h=>ad)) (aQ.2.1.on bg dy.2.1) (aQ.2.2.1.on bg dy.2.2) bk (aQ.2.2.2.2.on bg);clear bF bg bk c8 dp ds;go_roundw
  case rel=>exact⟨ak+1,some ⟨cg,fg,none⟩,m,dc,bU,bW,bE,dO,dB,_,by go_num,ad,ad,ad,ad,dX.o,by simp;omega,bh.o⟩
  case measure=>exact aH
 | true=>
  have ez:=bM rfl;have eJ:=ae ez;clear bM ez b6;obtain⟨a7,am,aF⟩:=aQ.2.2.2.2.blk.two;obtain⟨bx,a5,aT⟩:=dW.two;go_wp2_with(fail);have ca:∀z∈dO,z.au.length<=1000000:=λz bv=>by
   obtain⟨q,_,bA,hl⟩:=aQ.2.2.2.2.ok z bv;have:=(cD.procs q (Ln bA)).au.2;omega
  have eI:=ae ca;clear ca;refine(qf _ m dc _ i b3 bU bW bE dO y aY cP cZ X (aQ.2.2.2.2.ins.sl (λb h _=>h) (λb h _=>h)) df.1 ad eI.o).mono ?_;rintro e c7 ⟨r,rfl,cW,c6,b0⟩;have aR:=cJ (aQ.1.trans b0) (aQ.2.1.aj b0) (aQ.2.2.1.aj b0) (aQ.2.2.2.1.aj b0) (aQ.2.2.2.2.on (b0.mono λ_ h=>h.elim));have cQ:=ae (dW.aj b0);have e0:=(df.2.2.trans b0).size;have cT:=ag (df.1.on (Fr.ext b0)) ((df.2.1.al λb O=>b0.block b O.2 λh=>h).mono λb O=>(⟨O.1,Ll O.2 b0.size⟩:wr.heap.size<=b/\b<c7.heap.size));clear aQ dW df b0 a7 am aF bx a5 aT cW c6;obtain⟨a7,am,aF⟩:=aR.2.2.2.2.blk.two;obtain⟨bx,a5,aT⟩:=cQ.two;rcases Int.lt_or_le r 0 with ba|ba
  have eP:decide (r<0)=true:=by simpa using ba
  clear ba;have dz:=bq.2.2.2.2;have c4:=dz.blk.lt;have hD:(fE y).rep c7 (lL (λb=>b≠w.heap.size+1+1+1+1/\(Value.slice bz i b3).ownBlock≠some b/\¬b=dj) c7 (.slice (some ⟨cg,fg,none⟩) m dc)) [.int .i64 y.proc,.slice aY cP cZ]:=
   kF.2 ⟨aY,cZ,cP,rfl,dd,cT.2.mono λb O=>⟨⟨by have:=O.1;omega,λh=>by have:=(dz.cl b h).2;have:=O.1;omega,λh=>by have:=dz.kl b h;have:=O.1;omega⟩,O.2,λh=>by have:=(dz.ins.lt h).2;have:=O.1;omega⟩⟩
  have dA:∀b,(Value.slice (some ⟨cg,fg,none⟩) m dc).ownBlock=some b->b<wr.heap.size:=λb O=>(dz.ins.lt O).2;obtain⟨cb,el⟩:=aJ hD dA;have bB:w.heap.size+1+1<=c7.heap.size:=ad;clear dz c4 hD dA;go_upto_region 19 with(at_builtin;refine bT HS rfl (.tmp 77) (.tmp 79) rfl aR.2.2.2.2.ins cb.o rfl rfl rfl ad ad bB ?_;intro bi bP cS ef cU eg eO;have aX:=aE ef cU eg;have cF:=aR.2.2.2.2.blk.on cU (λO=>(aR.2.2.2.2.ig _ O).1 rfl);clear a7 am aF bx a5 aT ef cU eg eO;obtain⟨a7,am,aF⟩:=cF.two;clear cF);have au:=aR.2.2.2.2.JF eJ.o aX.1 aX.2.1 aX.2.2;have cU:=aX.2.1;have dK:=aR.2.2.2.2.ig;have bS:(dO++[y])[i]?=some ⟨dx,du⟩:=by rw[List.getElem?_append_left (List.getElem?_eq_some_iff.1 dX.o).1];exact dX.o
  have bG:∀v,Fr (λb=>b=w.heap.size+1+1+1+1) cS (cS.setCell ⟨w.heap.size+1+1+1+1,0,none⟩ v):=λv=>(Fr.refl (λb=>b=w.heap.size+1+1+1+1) cS).setCell (.inl rfl) v;have dA:=el.o;have c3:∀v,Fr (λb=>b=w.heap.size+1+1+1+1\/(Value.slice (some ⟨cg,fg,none⟩) m dc).ownBlock=some b) c7 (cS.setCell ⟨w.heap.size+1+1+1+1,0,none⟩ v):=λv=>(cU.mono λ_ h=>.inr h).trans ((bG v).mono λ_ h=>.inl h);have dw:=λb (O:(Value.slice (some ⟨cg,fg,none⟩) m dc).ownBlock=some b)=>(aR.2.2.2.2.ins.lt O).1;have ci:=bq.2.2.2.2.blk.lt;have bH:¬(az=w.heap.size+1+1+1+1\/(Value.slice (some ⟨cg,fg,none⟩) m dc).ownBlock=some az):=by
   rintro(h|h)
   .omega
   .have:=dA _ h;omega
  have dN:¬(w.heap.size=w.heap.size+1+1+1+1\/(Value.slice (some ⟨cg,fg,none⟩) m dc).ownBlock=some w.heap.size):=by
   rintro(h|h)
   .omega
   .have:=dw _ h;omega
  have dM:¬(w.heap.size+1=w.heap.size+1+1+1+1\/(Value.slice (some ⟨cg,fg,none⟩) m dc).ownBlock=some (w.heap.size+1)):=by
   rintro(h|h)
   .omega
   .have:=dw _ h;omega
  have ex:¬(dj=w.heap.size+1+1+1+1\/(Value.slice (some ⟨cg,fg,none⟩) m dc).ownBlock=some dj):=by
   rintro(h|h)
   .exact aR.2.2.2.2.kg h.symm
   .exact(dK _ h).2.2 rfl
  have ey:Sl (cS.setCell ⟨w.heap.size+1+1+1+1,0,none⟩ (.slice bi (m+1) bP)) (av (cS.setCell ⟨w.heap.size+1+1+1+1,0,none⟩ (.slice bi (m+1) bP))) aY cP (y.au.map .i):=
   (cT.2.al λb O=>(c3 _).block b O.2 (by
    rintro(h|h)
    .have:=O.1;omega
    .have:=dA _ h;have:=O.1;omega)).mono λb O=>Ll O.2 (c3 (.slice bi (m+1) bP)).size
  have aP:Ext w (cS.setCell ⟨w.heap.size+1+1+1+1,0,none⟩ (.slice bi (m+1) bP)):=aR.1.eR ((c3 _).below aR.1.size (by
   rintro k ap (h|h)
   .omega
   .have:=dw _ h;omega))
  have aU:=Af (show m+1<=st+ak+1+1 by omega) (show i<m+1 by omega) bS aP (aR.2.1.on (c3 (.slice bi (m+1) bP)) dN) (aR.2.2.1.on (c3 (.slice bi (m+1) bP)) dM) (aR.2.2.2.1.on (c3 (.slice bi (m+1) bP)) ex) au (cQ.on (c3 (.slice bi (m+1) bP)) bH) ey;clear bS bG dA c3 dw ci bH dN dM ex ey aP au cU dK aR cQ cT aX el cb a7 am aF bB;revert aU;generalize World.setCell _ _ _=fn;generalize m+1=ei;generalize dO++[y]=ep;intro aU
  rotate_left
  have eP:decide (r<0)=false:=by simpa using ba
  clear ba;go_upto_region 19 with(fail);have aU:=Af (show m<=st+ak+1+1 by omega) (show i<m by omega) dX.o aR.1 aR.2.1 aR.2.2.1 aR.2.2.2.1 aR.2.2.2.2 cQ.o cT.1;clear aR cQ cT a7 am aF bx a5 aT;revert aU;generalize c7=fn;generalize dc=bP;generalize m=ei;generalize dO=ep;generalize (some ⟨cg,fg,none⟩:L3)=bi;intro aU
  rotate_left
  all_goals
   obtain⟨e7,eu,bS,aP,d1,dZ,dI,au,cl,ee⟩:=aU.o;obtain⟨a7,am,aF⟩:=au.blk.two;obtain⟨bx,a5,aT⟩:=cl.two;clear bS aP d1 dZ dI au cl ee;go_wp2_with(fail);have ca:∀z∈ep,z.au.length<=1000000:=λz bv=>by
    obtain⟨q,_,bA,hl⟩:=aU.2.2.2.2.2.2.2.1.ok z bv;have:=(cD.procs q (Ln bA)).au.2;omega
   refine(qf bi ei bP bz i b3 bU bW bE ep y aY cP cZ fn (aU.2.2.2.2.2.2.2.1.ins.sl (λb h _=>h) (λb h _=>h)) aU.2.2.2.2.2.2.2.2.2 ad ca).mono ?_;rintro e gR ⟨gM,rfl,cr,bN,bj⟩;clear a7 am aF bx a5 aT ca cr bN;obtain⟨_,_,bS,aP,d1,dZ,dI,au,cl,ee⟩:=aU.o;obtain⟨c8,dp,ds⟩:=(dI.aj bj).two;have b6:=eH.o;have cB:=cH bS (aP.trans bj) (d1.aj bj) (dZ.aj bj) (dI.aj bj) (au.on (bj.mono λ_ h=>h.elim));clear bS aP d1 dZ dI au cl ee bj aU;go_upto_region 20 with(fail);generalize bF:World.setCell _ _ _=Z;have bg:=cO bF;have bk:aq Z dj 3 (cs.setIfInBounds ak (.int .i64 gM)):=bF▸cB.2.2.2.2.1.aM ak _;have d2:w.heap.size<=dj:=dy.1;have bd:Ext w Z:=cB.2.1.eR (bg.below cB.2.1.size λk ap h=>ad);have bh:=cJ bd (cB.2.2.1.on bg dy.2.1) (cB.2.2.2.1.on bg dy.2.2) bk (cB.2.2.2.2.2.on bg);have d6:=ae cB.1;clear bF bg bk c8 dp ds d2 cB b6;obtain⟨bc,b4,c,cells,eo,en,es,EA,em,ec,QA,qm,qc,fc,fe,fa,KA,eG,e9,eN,cv,hc,b1,ck⟩:=dD.Er bp;have bL:=b1.cells;subst bL eN;have c0:=(bd.tM.1 bc (b4+ak*12+0) cv).trans (ck 0 _ rfl);simp only[Lu] at c0;clear ck b1 hc bd;by_cases bn:c.op=3
   .rw[bn] at c0;clear bn;have b6:Z.cell? ⟨dj,ak,none⟩=some (.int .i64 gM):=by
     rw[bh.2.2.2.1.cell,Array.getElem?_setIfInBounds_self_of_lt ad]
    obtain⟨gs,g5,eK,_⟩:=bh.2.2.2.2.Il.some_ bh.2.2.2.2.w7;subst eK;obtain⟨a7,am,aF⟩:=bh.2.2.2.2.blk.two;have eY:=bh.2.2.2.1.lt;have et:bc<Z.heap.size:=Ll cv bh.1.size;go_upto_region 21 with(fail);refine eC (λ_=>False) [(0,3),(1,0),(2,3),(3,3),(4,3),(5,0),(6,2),(7,3),(8,2)] ?_;refine pf ?_;refine ph ?_
    iterate 3 refine pf ?_
    refine ph ?_;refine ax rfl (λK hK=>?_);go_simp;refine(Fm _ gs g5 bW bE dB gM Z.drew (bh.2.2.2.2.on LW.drew).Il (λb O=>O.1) ad bh.2.2.2.2.zg bh.2.2.2.2.w7).mono ?_;rintro e hT ⟨cA,eV,cI,eS,rfl,aD,cr,d5,cm,ct⟩;have dH:Ext Z hT:=Fr.aF ct;have gr:=bh.2.2.2.2.blk.aj dH;clear a7 am aF c0 b6;obtain⟨a7,am,aF⟩:=gr.two;have S:=hr.Kd (bh.2.2.2.2.on LW.drew) rfl cm ct aD d5;have bX:=ag dH S;clear cm ct dH gr S;exact s0
   .have cK:(c.op == 3)=false:=by simpa using bn
    clear bn;have et:bc<Z.heap.size:=Ll cv bh.1.size;go_wp2_with(fail);go_roundw
    case rel=>exact⟨ak+1,bi,ei,bP,bU,bW,bE,ep,dB,_,by go_num,ad,ad,ad,eu,d6.o,by simp;omega,bh.o⟩
    case measure=>exact aH
 ):p:=h
end Dm
open Dm in
theorem yJ(u:ay)(hu:c5 u)(GA:L3)(gn gc:Nat)(MA:L3)(mn mc:Nat)(PA:L3)(pn pc:Nat)(w:World)(hU:hA w (av w) u GA gn MA mn PA pn) :
  Calls prog 46 #[.agg #[.slice GA gn gc,.slice MA mn mc,.slice PA pn pc,.int .i64 u.main]] w
   λe ab=>∃(eF:L3) (n0 c0:Nat) (bZ:L3) (n1 c1:Nat) (A2:L3) (n2 c2:Nat) (k:Int),e=.returned (.tuple #[.agg #[.slice eF n0 c0,.slice bZ n1 c1,.slice A2 n2 c2],.int .i64 k])/\Ext w ab:=by
 have ew:u.procs.length=pn:=by rw[<-hU.p.1,Lo]
 have gu:pn<=16:=by have:=hu.EH;omega
 obtain⟨cD,dF⟩:=aJ hu hU;obtain⟨mp,bu,ai,_,cf⟩:=hu.main;have cR:=ae (show l8 u ⟨u.main,[]⟩ from ⟨mp,bu,ai,by simp[cf]⟩);clear hU hu bu ai cf;go_enter func46,ntmps46;go_wp2_with(fail);generalize be:World.alloc _ _=W;have aw:Ext w W:=be▸((((LW.alloc _).alloc _).alloc _).alloc _).alloc _;have bO:aq W w.heap.size 30 #[.slice GA gn gc,.slice MA mn mc,.slice PA pn pc,.int .i64 u.main]:=be▸((((LX).alloc _).alloc _).alloc _).alloc _;have aV:aq W (w.heap.size+1) 34 #[.slice none 0 0,.slice none 0 0,.slice none 0 0]:=be▸(((aq.gC _ _ _ (by simp)).alloc _).alloc _).alloc _;have N:hr u (w.heap.size+1+1+1+1) (w.heap.size+1+1) (λ_=>False) W (some ⟨w.heap.size+1+1,0,none⟩) 1 1 none 0 0 (some ⟨w.heap.size+1+1+1,0,none⟩) 1 1 [⟨u.main,[]⟩] [0]:=by
  have cx:aq W (w.heap.size+1+1+1) 3 #[.int .i64 0]:=be▸(aq.gC _ _ _ (by simp)).alloc _;have hl:=cx.lt;refine⟨by rw[<-be];exact aq.gC _ _ _ (by simp),?_,?_,⟨[],⟨by simp,.inl ⟨rfl,rfl⟩⟩⟩,?_,ad,Lk _,λb O=>?_,λb O=>(by cases O),λh=>h,λ_ h=>h.elim⟩
  .have ac:=Gr.lit (P:=λb=>b≠w.heap.size+1+1+1+1/\(Value.slice none 0 0).ownBlock≠some b/\¬False) (w:=(w.alloc (.cells #[.slice GA gn gc,.slice MA mn mc,.slice PA pn pc,.int .i64 u.main] 30)).alloc (.cells #[.slice none 0 0,.slice none 0 0,.slice none 0 0] 34))
    (e:=172) (z:=2) (n:=1) (cs:=#[.int .i64 u.main,.slice none 0 0]) (l:=[fE ⟨u.main,[]⟩]) rfl rfl ad (D.bm.2 (kF.2 ⟨none,0,0,rfl,Lk _,Sl.bR _⟩))
   simp only[World.size_alloc] at ac;rw[<-be];exact ac.aj ((LW.alloc _).alloc _)
  .intro x hx;simp only[LO] at hx;subst hx;exact cR.o
  .exact Sl.tv cx (D.bm.2 (by simp only[D.rep])) ⟨hl,ad,by simp[Value.ownBlock],by simp[Value.ownBlock],λh=>h⟩ rfl
  .simp only[Value.ownBlock,LP] at O;refine⟨ad,by simp[Value.ownBlock],λh=>h⟩
 have dC:=bJ aw bO aV N;clear be aw bO aV N cR;go_loopw [5,6] (λsv cy wr=>∃(i st:Nat) (IA:L3) (n ic:Nat) (bz:L3) (b3:Nat) (ce:L3) (a6 rc:Nat) (L:List hZ) (cd:List Int),sv=.int .i64 st/\cy=.int .i64 i/\i<=256/\st<=8000/\n<=st+1/\a6<=st+1/\i<=n/\
  Ext w wr/\aq wr w.heap.size 30 #[.slice GA gn gc,.slice MA mn mc,.slice PA pn pc,.int .i64 u.main]/\aq wr (w.heap.size+1) 34 #[.slice none 0 0,.slice none 0 0,.slice none 0 0]/\hr u (w.heap.size+1+1+1+1) (w.heap.size+1+1) (λ_=>False) wr IA n ic bz i b3 ce a6 rc L cd) (λ_ cy _=>257 - (intOf cy).toNat)
 case atStart=>exact⟨0,0,_,_,_,_,_,_,_,_,_,_,rfl,rfl,ad,ad,ad,ad,ad,dC.1,dC.2.1,dC.2.2.1,dC.2.2.2⟩
 case round=>
  obtain⟨i,st,IA,n,ic,bz,b3,ce,a6,rc,L,cd,rfl,rfl,an,ch,hn,d4,aG,aw,bO,aV,N⟩:=hrel;clear dC;have bq:=bJ aw bO aV N;obtain⟨a0,aj,af⟩:=bO.two;obtain⟨a7,am,aF⟩:=N.blk.two;by_cases al:i<n
  .have f1:(0:Int)<=(i:Int):=ad;have da:(i:Int)<(n:Int):=ad;have dJ:Sl wr (av wr) IA n (L.map fE):=N.ins.sl (λb h _=>h) (λb h _=>h);obtain⟨b,o,x,cw,cc,cC,dm,U,hx,c0,c1,aN,bo⟩:=dJ.wF al;obtain⟨p,h0,hp,cn⟩:=N.ok x (Ln hx);obtain⟨eE,du⟩:=x;simp only at h0 hp cn c0 bo;obtain⟨dx,rfl⟩:=Lp h0;rw[LI] at hp;have zu:dx<pn:=by have:=(List.getElem?_eq_some_iff.1 hp).1;omega
   have ej:(0:Int)<=(dx:Int):=ad;have db:(dx:Int)<(pn:Int):=ad;obtain⟨pb,gP,dV,fb,cp,eA,rfl,eQ,cL,p0,bf,dS,p3,p4,de,dQ⟩:=dF.proc zu;have p4:=(aw.tM.1 pb (gP+dx*5+4) eQ).trans p4;have eQ:pb<wr.heap.size:=Ll eQ aw.size;obtain rfl:dV=p:=by rw[hp] at cL;injection cL with cL;exact cL.symm
   subst dm;have f2:dV.code.length=cp:=by rw[<-dQ.1,Lo]
   have a8:cp<=201:=by
    obtain⟨s,hs,hl,_⟩:=(cD.procs dV (Ln hp)).code;have:dV.code.length<=201:=by rw[hs];simp;omega
    omega
   have cq:=aE hp cn hx;have dD:=ae dQ;clear aw bO aV N dJ hx hp cn cL bo dQ p0 bf dS p3 aN c1;go_upto_region 6 with(fail);refine eC (λ_=>False) [(0,3),(1,0),(2,3),(3,0),(4,3),(5,3),(6,3),(7,0),(8,3),(9,3),(10,0),(11,3)] ?_;refine pf ?_;refine ph ?_;refine pf ?_;refine ph ?_
   iterate 3 refine pf ?_
   refine ph ?_
   iterate 2 refine pf ?_
   refine ph ?_;refine pf ?_;refine aC ?_;have cX:hr u (w.heap.size+1+1+1+1) (w.heap.size+1+1) (λ_=>False) wr.drew (some ⟨b,o,none⟩) n ic bz i b3 ce a6 rc L cd:=bq.2.2.2.on LW.drew;have d8:=bq.2.2.1.drew;have d7:=bq.2.1.drew;have aZ:Ext w wr.drew:=bq.1.drew;replace bq:=bJ aZ d7 d8 cX
   clear a0 aj af a7 am aF c0 p4;clear aZ d7 d8 cX;have dl:b<wr.drew.heap.size:=U;clear eQ U;revert bq dl;generalize wr.drew=wd;intro bq dl;obtain⟨d0,aL,aM⟩:=bq.2.2.1.two;by_cases eW:i<256
   case neg=>
    have q1:decide ((i:Int)>=256)=true:=by simp;omega
    exact G4
   have q1:decide ((i:Int)>=256)=false:=by simp;omega
   by_cases eL:st+cp<=8000
   case neg=>
    have cN:decide ((st:Int)+cp > 8000)=true:=by simp;omega
    exact G4
   have cN:decide ((st:Int)+cp > 8000)=false:=by simp;omega
   have d3:=λW=>run_mk (P:=prog) dh .i64 .i64 cp ad ad W;clear d0 aL aM;go_wp2_with(fail);clear d3;generalize hV:World.alloc _ _=V;have bm:=aW hV;have bw:=aI hV;have b7:(madeCells #[.int .i64 0] cp).size=cp:=size_madeCells _ _;have ah:=cH b7 (bq.1.trans bm) (bq.2.1.aj bm) (bq.2.2.1.aj bm) bw (bq.2.2.2.apart bm (Lk _) bw.lt);clear hV bm bw b7;generalize madeCells #[.int .i64 0] cp=fd at ah;have dy:=ae (show w.heap.size<=wd.heap.size/\¬w.heap.size=wd.heap.size/\¬w.heap.size+1=wd.heap.size by
    have:=bq.2.2.1.lt;omega)
   clear bq;generalize wd.heap.size=dj at *;have e5:=ag hn d4;go_loopw [9] (λeR cM=>∃(ak:Nat) (dg:L3) (m dc:Nat) (bU:L3) (bW bE:Nat) (dO:List hZ) (dB:List Int) (cs:Array Value),eR=.int .i64 ak/\ak<=cp/\m<=st+ak+1/\bW<=st+ak+1/\i<m/\dO[i]?=some ⟨dx,du⟩/\
    cs.size=cp/\Ext w cM/\aq cM w.heap.size 30 #[.slice GA gn gc,.slice MA mn mc,.slice (some ⟨pb,gP,none⟩) pn pc,.int .i64 u.main]/\aq cM (w.heap.size+1) 34 #[.slice none 0 0,.slice none 0 0,.slice none 0 0]/\
    aq cM dj 3 cs/\hr u (w.heap.size+1+1+1+1) (w.heap.size+1+1) (λb=>b=dj) cM dg m dc bz i b3 bU bW bE dO dB) (λeR _=>cp - (intOf eR).toNat)
   case atStart=>exact⟨0,_,_,_,_,_,_,_,_,_,rfl,ad,ad,ad,al,cq.2.2,ah.o⟩
   case round=>
    obtain⟨ak,dg,m,dc,bU,bW,bE,dO,dB,cs,rfl,dk,hm,c9,dL,ed,T,aw,bO,aV,bw,N⟩:=hrel;clear ah;have bq:=cJ aw bO aV bw N;obtain⟨a0,aj,af⟩:=bO.two;obtain⟨a7,am,aF⟩:=N.blk.two;by_cases bp:ak<cp
    .have e3:(ak:Int)<(cp:Int):=ad;have eZ:(i:Int)<(m:Int):=ad;have dJ:Sl wr (av wr) dg m (dO.map fE):=N.ins.sl (λb h _=>h) (λb h _=>h);obtain⟨cg,fg,a4,eq,eD,eB,eM,er,a1,c0,c1,e4,dR⟩:=dJ.wF dL;obtain rfl:a4=⟨dx,du⟩:=by rw[ed] at a1;injection a1 with a1;exact a1.symm
     subst eM;simp only at c0 dR;obtain⟨di,dX⟩:=aJ dR ed;clear dR a1 dJ aw bO aV bw N ed;go_upto_region 14 with(fail);refine rC (λ_=>False) [12] (.held 0 (.free 1 (.held 2 (.free 3 (.free 4 (.held 5 (.free 6 (.pick [7,11] (λi=>bif i == 7 then .free 8 (.free 9 (.free 10 (.pick [11] (λ_=>.pick [12] (λ_=>.free 13 (.stop)))))) else .pick [7] (λ_=>.free 8 (.free 9 (.free 10 (.pick [12] (λ_=>.free 13 (.stop))))))))))))))) ?_;refine th ?_;refine tf ?_;refine th ?_
     iterate 2 refine tf ?_
     refine th ?_;refine tf ?_;have e8:∀k,k<wr.heap.size->k<wr.drew.heap.size:=λ_ h=>h;refine g0 (P:=?oU) (ops:=?Ie) (Q:=?Ih) (R:=?Ij) (tails:=?Iu) (rest:=.pick [12] (λ_=>.free 13 (.stop))) (aa:=?HP)
      (C:=λ(az:Nat) (ok:Bool) (Y:Value) bD=>Ext wr bD/\aq bD az 172 #[.int .i64 0,.slice none 0 0]/\wr.heap.size<=az/\∃(y:hZ) (aY:L3) (cP cZ:Nat),Y=.agg #[.int .i64 y.proc,.slice aY cP cZ]/\(ok=true->l8 u y)/\cP<=cZ/\Sl bD (λb=>wr.heap.size<=b/\b<bD.heap.size/\b≠az) aY cP (y.au.map .i)) (λkey=>?wP) ?wI
     case wP=>
      refine a2 ?_ ?_
      ·
       refine aB rfl (λK hK=>?_) rfl;go_simp;refine(pX u cD.o GA gn gc MA mn mc (some ⟨pb,gP,none⟩) pn pc ⟨dx,du⟩ eq eD eB dV ej cq.1 cq.2.1 ak ad wr.drew (dF.on bq.1.drew) (di.on (Fr.ext LW.drew))).mono ?_;rintro e aS ⟨ok,y,aY,cP,cZ,rfl,bM,dd,cV,ar⟩;refine dq hK (ar) ?_;clear hK K
       iterate 3 refine tf ?_
       refine ao ?_;refine dT ?_;generalize bF:World.alloc _ _=Z;have e2:=aW bF;have cr:wr.heap.size<=aS.heap.size:=ar.size;have F:Ext wr Z/\aq Z aS.heap.size 172 #[.int .i64 0,.slice none 0 0]/\wr.heap.size<=aS.heap.size/\∃(ek:hZ) (dG:L3) (dv dU:Nat),(Value.agg #[.int .i64 y.proc,.slice aY cP cZ])=.agg #[.int .i64 ek.proc,.slice dG dv dU]/\(ok=true->l8 u ek)/\dv<=dU/\Sl Z (λb=>wr.heap.size<=b/\b<Z.heap.size/\b≠aS.heap.size) dG dv (ek.au.map .i):=
        ⟨(Fr.aF ar).trans e2,by rw[<-bF];exact LX,cr,y,aY,cP,cZ,rfl,bM,dd,(cV.al λb O=>e2.block b O.2 λh=>h).mono λb O=>⟨O.1,Ll O.2 e2.size,by have:=O.2;omega⟩⟩
       clear bF e2 cr ar cV bM dd;revert F;generalize aS.heap.size=az;generalize (Value.agg #[.int .i64 y.proc,.slice aY cP cZ])=Y;intro F;exact key az ok Y _ F
      ·
       refine dT ?_;generalize hV:World.drew (World.alloc _ _)=e6;have e1:=gK hV;have cG:=kx hV;have cr:=cG.lt;refine ao ?_;refine aB rfl (λK hK=>?_) rfl;go_simp;refine(pX u cD.o GA gn gc MA mn mc (some ⟨pb,gP,none⟩) pn pc ⟨dx,du⟩ eq eD eB dV ej cq.1 cq.2.1 ak ad e6 (dF.on (bq.1.trans e1)) (di.on (Fr.ext e1))).mono ?_;rintro e aS ⟨ok,y,aY,cP,cZ,rfl,bM,dd,cV,ar⟩;refine dq hK (ar) ?_;clear hK K
       iterate 3 refine tf ?_
       have F:Ext wr aS/\aq aS wr.heap.size 172 #[.int .i64 0,.slice none 0 0]/\wr.heap.size<=wr.heap.size/\∃(ek:hZ) (dG:L3) (dv dU:Nat),(Value.agg #[.int .i64 y.proc,.slice aY cP cZ])=.agg #[.int .i64 ek.proc,.slice dG dv dU]/\(ok=true->l8 u ek)/\dv<=dU/\Sl aS (λb=>wr.heap.size<=b/\b<aS.heap.size/\b≠wr.heap.size) dG dv (ek.au.map .i):=
        ⟨e1.trans ar,cG.aj ar,Lk _,y,aY,cP,cZ,rfl,bM,dd,cV.mono λb O=>⟨by have:=O.1;omega,O.2,by have:=O.1;omega⟩⟩
       clear hV e1 cG cr ar cV bM dd;revert F key;generalize (Value.agg #[.int .i64 y.proc,.slice aY cP cZ])=Y;intro key F;exact key wr.heap.size ok Y _ F
     case wI=>
      rintro az ok Y bD ⟨co,bC,gt,y,aY,cP,cZ,rfl,bM,dd,cV⟩;obtain⟨bx,a5,aT⟩:=bC.two;clear a0 aj af a7 am aF c0 c1;exact fp
    .obtain rfl:ak=cp:=ad;obtain⟨xs,d9⟩:=N.H2;have b8:∀u∈(#[Value.slice (some ⟨dj,0,none⟩) ak ak]:Array Value).toList,u.oneCell'=true:=λu hu=>by
      simp only[LO] at hu;subst hu;rfl
     have bB:w.heap.size+1+1<=wr.heap.size:=by have:=N.blk.lt;omega
     clear aw bO aV bw N;go_wp2_with(at_builtin;refine dn _ HX rfl (.tmp 103) (.tmp 105) rfl (w.heap.size+1+1) _ i xs _ rfl d9 rfl rfl b8 ad ad bB ?_;intro v1 aS bb b2 cY;obtain⟨bV,cj,eh,eX,_⟩:=b5 bb;subst eh;have aK:Fr (λb=>(Value.slice bz i b3).ownBlock=some b) wr aS:=LW.grown b2 (λg a9=>.inl a9);have cG:=bq.2.2.2.2.blk.on aK (λO=>(bq.2.2.2.2.cg _ O).1 rfl);have cE:dt wr bz i b3 bV (i+1) cj:=(λb O=>cY.elim (λh=>.inl (h▸O)) (λh=>.inr (by rw[h] at O;injection O with O;omega)));have bY:=aE bb aK cE;clear a7 am aF bb b2 cY aK cE d9 b8;obtain⟨a7,am,aF⟩:=cG.two;clear cG);generalize hw:World.setCell _ _ _=wf;have S:=(bq.2.2.2.2.JE bY.1 bY.2.1 bY.2.2).free;rw[hw] at S;have a8:=bq.2.2.2.2.cl;have bI:Fr (λb=>b=w.heap.size+1+1+1+1\/(Value.slice bz i b3).ownBlock=some b) wr wf:=(bY.2.1.mono λ_ h=>.inr h).trans (by rw[<-hw];exact(Fr.refl (λb=>b=w.heap.size+1+1+1+1\/(Value.slice bz i b3).ownBlock=some b) aS).setCell (.inl (.inl rfl)) _);have dN:¬(w.heap.size=w.heap.size+1+1+1+1\/(Value.slice bz i b3).ownBlock=some w.heap.size):=by
      rintro(h|h)
      .omega
      .have:=(a8 _ h).1;omega
     have dM:¬(w.heap.size+1=w.heap.size+1+1+1+1\/(Value.slice bz i b3).ownBlock=some (w.heap.size+1)):=by
      rintro(h|h)
      .omega
      .have:=(a8 _ h).1;omega
     have dr:Ext w wf:=bq.1.eR (bI.below bq.1.size (by
      rintro k ap (h|h)
      .omega
      .have:=(a8 _ h).1;omega))
     have a3:=bJ dr (bq.2.1.on bI dN) (bq.2.2.1.on bI dM) S;clear hw S a8 bI dN dM dr bq bY a7 am aF;go_roundw
     case rel=>exact⟨i+1,st+ak,dg,m,dc,bV,cj,bU,bW,bE,dO,dB,by go_num,by go_num,ad,ad,ad,ad,ad,a3.o⟩
     case measure=>exact aH
  .obtain rfl:i=n:=ad;clear aw bO N;obtain⟨d0,aL,aM⟩:=aV.two;clear aV;go_wp2_with(fail);generalize cu:World.setCell _ _ _=Y;obtain⟨bK,bt,bR⟩:=dY (M:=λ_=>False) [.slice IA i ic,.slice bz i b3,.slice ce a6 rc] (by rfl) bq.2.2.1 (w:=w) bq.1 ad cu;obtain⟨bl,aA,aO⟩:=bK.two;refine LU (v:=.tuple #[.agg #[.slice IA i ic,.slice bz i b3,.slice ce a6 rc],.int .i64 0]) (by simp[results,Tryz.results46,go_sem,bl]) rfl ?_;exact⟨_,_,_,_,_,_,_,_,_,_,rfl,bt⟩
end Go.Proofs.YtkhnkojkplbioaaGreat

/- Part 40 of the proof. No condition of its own. -/
import Derived.Test.YtbkhhfajcgkpgaaGreatQ29
import Derived.Test.YtbkhhfajcgkpgaaGreatQ30
namespace Go.Proofs.YtbkhhfajcgkpgaaGreat
open Go.RowKit Go.Proofs.Tryz
set_option maxRecDepth 1000000
set_option maxHeartbeats 25600000
set_option linter.unusedVariables false
variable{p:Prop}
namespace BO
theorem jD(h:p:=by
 generalize hw:World.setCell _ _ _=wf;have aD:=bX.2;rw[hw] at aD;have bK:Fr (fun b=>b=w.heap.size+1+1+1+1) Z wf:=(bX.1.mono fun _ h=>h.elim).trans (by rw[←hw];exact(Fr.refl (fun b=>b=w.heap.size+1+1+1+1) hH).setCell (.inl rfl) _);have ei:¬c5=w.heap.size+1+1+1+1:=fun h=>aD.kg h.symm;have aX:=dA (ba.1.eB (bK.below ba.1.size fun k aj h=>ab)) (ba.2.1.on bK ab) (ba.2.2.1.on bK ab) (ba.2.2.2.1.on bK ei) aD;clear hw aD bK ei bX a6 am aI;go_wp2_with(fail);go_roundw
 case rel=>exact⟨az+1,bM,d8,b5,cF,eM,cH,ed,eK,_,by go_num,ab,ab,ab,eh,dS.o,by simp;omega,aX.o⟩
 case measure=>exact aB
 ):p:=h
theorem gq(h:p:=by
 refine tf ?_;refine cw ?_;generalize hX:World.setCell _ _ _=X;obtain⟨bh,bo,b0⟩:=dL (M:=fun _=>False) [.int .i64 y.proc,.slice cC cI cD] (by rfl) bH a2 gD hX;have dY:Sl X (au X) cC cI (y.aw.map .i):=(cv.aj fun b O=>b0.block b O.2.1 O.2.2).mono fun b O=>JR O.2.1 b0.size;have dX:Sl X (fun b=>wr.heap.size≤b∧b<X.heap.size) cC cI (y.aw.map .i):=(cv.aj fun b O=>b0.block b O.2.1 O.2.2).mono fun b O=>⟨O.1,JR O.2.1 b0.size⟩
 have aP:=dA (bu.1.trans bo) (bu.2.1.ak bo) (bu.2.2.1.ak bo) (bu.2.2.2.1.ak bo) (bu.2.2.2.2.on (bo.mono fun _ h=>h.elim));have dJ:=ad bh;have c8:=aQ dY dX bo;clear hX bh b0 bo dY dX cv bH a2 br ah bj;have bU:cs[az]?=some (cs[az]'ab):=Array.getElem?_eq_getElem ab;have ex:=ad bU
 cases ok with
 | false=>
  obtain⟨cz,d6,d7⟩:=aP.2.2.2.1.two;go_wp2_with(fail);generalize bD:World.setCell _ _ _=Z;have bn:Fr (fun b=>b=c5) X Z:=bD▸(Fr.refl (fun b=>b=c5) X).setCell (.inl rfl) _;have bC:af Z c5 3 (cs.setIfInBounds az (.int .i64 (-1))):=bD▸aP.2.2.2.1.aC az _;have dO:w.heap.size≤c5:=de.1;have ba:=dA (aP.1.eB (bn.below aP.1.size fun k aj h=>ab)) (aP.2.1.on bn de.2.1) (aP.2.2.1.on bn de.2.2) bC (aP.2.2.2.2.on bn);clear bD bn bC cz d6 d7;go_roundw
  case rel=>exact⟨az+1,some ⟨cZ,eN,none⟩,m,cy,bp,bQ,a7,bE,dj,_,by go_num,ab,ab,ab,ab,dK.o,by simp;omega,ba.o⟩
  case measure=>exact aB
 | true=>
  have ep:=b9 rfl;have eA:=ad ep;clear b9 ep bU;obtain⟨a6,am,aI⟩:=aP.2.2.2.2.blk.two;obtain⟨br,ah,bj⟩:=dJ.two;go_wp2_with(fail);have cW:∀z∈bE,z.aw.length≤1000000:=fun z bi=>by
   obtain⟨q,_,bm,hl⟩:=aP.2.2.2.2.ok z bi;have:=(cm.procs q (JT bm)).aw.2;omega
  have ey:=ad cW;clear cW;refine(pt _ m cy _ i bO bp bQ a7 bE y cC cI cD X (aP.2.2.2.2.ins.sl (fun b h _=>h) (fun b h _=>h)) c8.1 ab ey.o).mono ?_;rintro e cx ⟨r,rfl,cG,bx,a4⟩;have aC:=dA (aP.1.trans a4) (aP.2.1.ak a4) (aP.2.2.1.ak a4) (aP.2.2.2.1.ak a4) (aP.2.2.2.2.on (a4.mono fun _ h=>h.elim));have cR:=ad (dJ.ak a4);have eT:=(c8.2.2.trans a4).size;have cS:=ai (c8.1.on (Fr.ext a4)) ((c8.2.1.aj fun b O=>a4.block b O.2 fun h=>h).mono fun b O=>(⟨O.1,JR O.2 a4.size⟩:wr.heap.size≤b∧b<cx.heap.size));clear aP dJ c8 a4 a6 am aI br ah bj cG bx;obtain⟨a6,am,aI⟩:=aC.2.2.2.2.blk.two;obtain⟨br,ah,bj⟩:=cR.two;rcases Int.lt_or_le r 0 with aU|aU
  have eJ:decide (r<0)=true:=by simpa using aU
  clear aU;have dg:=bu.2.2.2.2;have dw:=dg.blk.lt;have hD:(ff y).rep cx (lg (fun b=>b≠w.heap.size+1+1+1+1∧(Value.slice bI i bO).ownBlock≠some b∧¬b=c5) cx (.slice (some ⟨cZ,eN,none⟩) m cy)) [.int .i64 y.proc,.slice cC cI cD]:=
   kk.2 ⟨cC,cD,cI,rfl,co,cS.2.mono fun b O=>⟨⟨by have:=O.1;omega,fun h=>by have:=(dg.cl b h).2;have:=O.1;omega,fun h=>by have:=dg.kl b h;have:=O.1;omega⟩,O.2,fun h=>by have:=(dg.ins.lt h).2;have:=O.1;omega⟩⟩
  have dh:∀b,(Value.slice (some ⟨cZ,eN,none⟩) m cy).ownBlock=some b→b<wr.heap.size:=fun b O=>(dg.ins.lt O).2;obtain⟨df,eb⟩:=aM hD dh;have aH:w.heap.size+1+1≤cx.heap.size:=ab;clear dg dw hD dh;go_upto_region 19 with(at_builtin;refine bR Gf rfl (.tmp 77) (.tmp 79) rfl aC.2.2.2.2.ins df.o rfl rfl rfl ab ab aH ?_;intro bM b5 cp d2 cr d4 eH;have bL:=aQ d2 cr d4;have a1:=aC.2.2.2.2.blk.on cr (fun O=>(aC.2.2.2.2.ig _ O).1 rfl);clear a6 am aI br ah bj d2 cr d4 eH;obtain⟨a6,am,aI⟩:=a1.two;clear a1);have aO:=aC.2.2.2.2.H3 eA.o bL.1 bL.2.1 bL.2.2;have cr:=bL.2.1;have dx:=aC.2.2.2.2.ig;have b8:(bE++[y])[i]?=some ⟨c9,da⟩:=by rw[List.getElem?_append_left (List.getElem?_eq_some_iff.1 dK.o).1];exact dK.o
  have aZ:∀v,Fr (fun b=>b=w.heap.size+1+1+1+1) cp (cp.setCell ⟨w.heap.size+1+1+1+1,0,none⟩ v):=fun v=>(Fr.refl (fun b=>b=w.heap.size+1+1+1+1) cp).setCell (.inl rfl) v;have dh:=eb.o;have cX:∀v,Fr (fun b=>b=w.heap.size+1+1+1+1∨(Value.slice (some ⟨cZ,eN,none⟩) m cy).ownBlock=some b) cx (cp.setCell ⟨w.heap.size+1+1+1+1,0,none⟩ v):=fun v=>(cr.mono fun _ h=>.inr h).trans ((aZ v).mono fun _ h=>.inl h);have dd:=fun b (O:(Value.slice (some ⟨cZ,eN,none⟩) m cy).ownBlock=some b)=>(aC.2.2.2.2.ins.lt O).1;have bN:=bu.2.2.2.2.blk.lt;have fg:¬(cn=w.heap.size+1+1+1+1∨(Value.slice (some ⟨cZ,eN,none⟩) m cy).ownBlock=some cn):=by
   rintro(h|h)
   ·omega
   ·have:=dh _ h;omega
  have dC:¬(w.heap.size=w.heap.size+1+1+1+1∨(Value.slice (some ⟨cZ,eN,none⟩) m cy).ownBlock=some w.heap.size):=by
   rintro(h|h)
   ·omega
   ·have:=dd _ h;omega
  have dB:¬(w.heap.size+1=w.heap.size+1+1+1+1∨(Value.slice (some ⟨cZ,eN,none⟩) m cy).ownBlock=some (w.heap.size+1)):=by
   rintro(h|h)
   ·omega
   ·have:=dd _ h;omega
  have ek:¬(c5=w.heap.size+1+1+1+1∨(Value.slice (some ⟨cZ,eN,none⟩) m cy).ownBlock=some c5):=by
   rintro(h|h)
   ·exact aC.2.2.2.2.kg h.symm
   ·exact(dx _ h).2.2 rfl
  have el:Sl (cp.setCell ⟨w.heap.size+1+1+1+1,0,none⟩ (.slice bM (m+1) b5)) (au (cp.setCell ⟨w.heap.size+1+1+1+1,0,none⟩ (.slice bM (m+1) b5))) cC cI (y.aw.map .i):=
   (cS.2.aj fun b O=>(cX _).block b O.2 (by
    rintro(h|h)
    ·have:=O.1;omega
    ·have:=dh _ h;have:=O.1;omega)).mono fun b O=>JR O.2 (cX (.slice bM (m+1) b5)).size
  have cq:Ext w (cp.setCell ⟨w.heap.size+1+1+1+1,0,none⟩ (.slice bM (m+1) b5)):=aC.1.eB ((cX _).below aC.1.size (by
   rintro k aj (h|h)
   ·omega
   ·have:=dd _ h;omega))
  have t:=ze (show m+1≤st+az+1+1 by omega) (show i<m+1 by omega) b8 cq (aC.2.1.on (cX (.slice bM (m+1) b5)) dC) (aC.2.2.1.on (cX (.slice bM (m+1) b5)) dB) (aC.2.2.2.1.on (cX (.slice bM (m+1) b5)) ek) aO (cR.on (cX (.slice bM (m+1) b5)) fg) el;clear b8 aZ dh cX dd bN fg dC dB ek el cq aO cr dx aC cR cS bL eb df a6 am aI aH;revert t;generalize World.setCell _ _ _=fn;generalize m+1=d8;generalize bE++[y]=ed;intro t
  rotate_left
  have eJ:decide (r<0)=false:=by simpa using aU
  clear aU;go_upto_region 19 with(fail);have t:=ze (show m≤st+az+1+1 by omega) (show i<m by omega) dK.o aC.1 aC.2.1 aC.2.2.1 aC.2.2.2.1 aC.2.2.2.2 cR.o cS.1;clear aC cR cS a6 am aI br ah bj;revert t;generalize cx=fn;generalize cy=b5;generalize m=d8;generalize bE=ed;generalize (some ⟨cZ,eN,none⟩:Kr)=bM;intro t
  rotate_left
  all_goals
   obtain⟨eX,eh,b8,cq,dN,dM,ds,aO,bJ,d1⟩:=t.o;obtain⟨a6,am,aI⟩:=aO.blk.two;obtain⟨br,ah,bj⟩:=bJ.two;clear b8 cq dN dM ds aO bJ d1;go_wp2_with(fail);have cW:∀z∈ed,z.aw.length≤1000000:=fun z bi=>by
    obtain⟨q,_,bm,hl⟩:=t.2.2.2.2.2.2.2.1.ok z bi;have:=(cm.procs q (JT bm)).aw.2;omega
   refine(pt bM d8 b5 bI i bO bp bQ a7 ed y cC cI cD fn (t.2.2.2.2.2.2.2.1.ins.sl (fun b h _=>h) (fun b h _=>h)) t.2.2.2.2.2.2.2.2.2 ab cW).mono ?_;rintro e gN ⟨gE,rfl,b1,bz,cc⟩;clear a6 am aI br ah bj cW b1 bz;obtain⟨_,_,b8,cq,dN,dM,ds,aO,bJ,d1⟩:=t.o;obtain⟨cz,d6,d7⟩:=(ds.ak cc).two;have bU:=ex.o;have cA:=dQ b8 (cq.trans cc) (dN.ak cc) (dM.ak cc) (ds.ak cc) (aO.on (cc.mono fun _ h=>h.elim));clear b8 cq dN dM ds aO bJ d1 cc t;go_upto_region 20 with(fail);generalize bD:World.setCell _ _ _=Z;have bn:Fr (fun b=>b=c5) gN Z:=bD▸(Fr.refl (fun b=>b=c5) gN).setCell (.inl rfl) _;have bC:af Z c5 3 (cs.setIfInBounds az (.int .i64 gE)):=bD▸cA.2.2.2.2.1.aC az _;have dO:w.heap.size≤c5:=de.1;have bl:Ext w Z:=cA.2.1.eB (bn.below cA.2.1.size fun k aj h=>ab);have ba:=dA bl (cA.2.2.1.on bn de.2.1) (cA.2.2.2.1.on bn de.2.2) bC (cA.2.2.2.2.2.on bn);have dS:=ad cA.1;clear bD bn bC cz d6 d7 dO cA bU;obtain⟨eL,bG,c,cells,eo,en,es,EA,em,ec,QA,qm,qc,e5,e7,e3,KA,ev,e0,eG,cu,hc,cL,aV⟩:=ez.CP bb;have aY:=cL.cells;subst aY eG;have c0:=(bl.uu.1 eL (bG+az*12+0) cu).trans (aV 0 _ rfl);simp only[J0] at c0;clear aV cL hc bl;by_cases a8:c.op=3
   ·rw[a8] at c0;clear a8;have bU:Z.cell? ⟨c5,az,none⟩=some (.int .i64 gE):=by
     rw[ba.2.2.2.1.cell,Array.getElem?_setIfInBounds_self_of_lt ab]
    obtain⟨gm,gY,eB,_⟩:=ba.2.2.2.2.GL.some_ ba.2.2.2.2.vR;subst eB;obtain⟨a6,am,aI⟩:=ba.2.2.2.2.blk.two;have eR:=ba.2.2.2.1.lt;have eg:eL<Z.heap.size:=JR cu ba.1.size;go_upto_region 21 with(fail);refine eE (fun _=>False) [(0,3),(1,0),(2,3),(3,3),(4,3),(5,0),(6,2),(7,3),(8,2)] ?_;refine pf ?_;refine ph ?_
    iterate 3 refine pf ?_
    refine ph ?_;refine aq rfl (fun K hK=>?_);go_simp;refine(DI _ gm gY bQ a7 dj gE Z.drew (ba.2.2.2.2.on Kn.drew).GL (fun b O=>O.1) ab ba.2.2.2.2.yi ba.2.2.2.2.vR).mono ?_;rintro e hH ⟨cF,eM,cH,eK,rfl,bF,b1,dR,bT,cT⟩;have dp:Ext Z hH:=Fr.aO cT;have gi:=ba.2.2.2.2.blk.ak dp;clear a6 am aI c0 bU;obtain⟨a6,am,aI⟩:=gi.two;have aD:=gZ.IF (ba.2.2.2.2.on Kn.drew) rfl bT cT bF dR;have bX:=ai dp aD;clear bT cT dp gi aD;exact lB
   ·have cP:(c.op == 3)=false:=by simpa using a8
    clear a8;have eg:eL<Z.heap.size:=JR cu ba.1.size;go_wp2_with(fail);go_roundw
    case rel=>exact⟨az+1,bM,d8,b5,bp,bQ,a7,ed,dj,_,by go_num,ab,ab,ab,eh,dS.o,by simp;omega,ba.o⟩
    case measure=>exact aB
 ):p:=h
end BO
open BO in
theorem xE(u:av)(hu:cU u)(GA:Kr)(gn gc:Nat)(MA:Kr)(mn mc:Nat)(PA:Kr)(pn pc:Nat)(w:World)(hU:g5 w (au w) u GA gn MA mn PA pn) :
  Calls prog 60 #[.agg #[.slice GA gn gc,.slice MA mn mc,.slice PA pn pc,.int .i64 u.main]] w
   fun e ac=>∃(ef:Kr) (n0 c0:Nat) (ce:Kr) (n1 c1:Nat) (A2:Kr) (n2 c2:Nat) (k:Int),e=.returned (.tuple #[.agg #[.slice ef n0 c0,.slice ce n1 c1,.slice A2 n2 c2],.int .i64 k])∧Ext w ac:=by
 have ej:u.procs.length=pn:=by rw[←hU.p.1,JU]
 have gH:pn≤16:=by have:=hu.FU;omega
 obtain⟨cm,dl⟩:=aM hu hU;obtain⟨mp,ci,cJ,_,ay⟩:=hu.main;have dv:=ad (show lL u ⟨u.main,[]⟩ from ⟨mp,ci,cJ,by simp[ay]⟩);clear hU hu ci cJ ay;go_enter func60,ntmps60;go_wp2_with(fail);generalize bg:World.alloc _ _=W;have aF:Ext w W:=bg▸((((Kn.alloc _).alloc _).alloc _).alloc _).alloc _;have cd:af W w.heap.size 26 #[.slice GA gn gc,.slice MA mn mc,.slice PA pn pc,.int .i64 u.main]:=bg▸((((Ko).alloc _).alloc _).alloc _).alloc _;have bB:af W (w.heap.size+1) 75 #[.slice none 0 0,.slice none 0 0,.slice none 0 0]:=bg▸(((af.ct _ _ _ (by simp)).alloc _).alloc _).alloc _;have U:gZ u (w.heap.size+1+1+1+1) (w.heap.size+1+1) (fun _=>False) W (some ⟨w.heap.size+1+1,0,none⟩) 1 1 none 0 0 (some ⟨w.heap.size+1+1+1,0,none⟩) 1 1 [⟨u.main,[]⟩] [0]:=by
  have cO:af W (w.heap.size+1+1+1) 3 #[.int .i64 0]:=bg▸(af.ct _ _ _ (by simp)).alloc _;have hl:=cO.lt;refine⟨by rw[←bg];exact af.ct _ _ _ (by simp),?_,?_,⟨[],⟨by simp,.inl ⟨rfl,rfl⟩⟩⟩,?_,ab,JQ _,fun b O=>?_,fun b O=>(by cases O),fun h=>h,fun _ h=>h.elim⟩
  ·have ae:=Gr.lit (P:=fun b=>b≠w.heap.size+1+1+1+1∧(Value.slice none 0 0).ownBlock≠some b∧¬False) (w:=(w.alloc (.cells #[.slice GA gn gc,.slice MA mn mc,.slice PA pn pc,.int .i64 u.main] 26)).alloc (.cells #[.slice none 0 0,.slice none 0 0,.slice none 0 0] 75))
    (e:=177) (z:=2) (n:=1) (cs:=#[.int .i64 u.main,.slice none 0 0]) (l:=[ff ⟨u.main,[]⟩]) rfl rfl ab (D.bj.2 (kk.2 ⟨none,0,0,rfl,JQ _,Sl.bG _⟩))
   simp only[World.size_alloc] at ae;rw[←bg];exact ae.ak ((Kn.alloc _).alloc _)
  ·intro x hx;simp only[Kh] at hx;subst hx;exact dv.o
  ·exact Sl.m0 cO (D.bj.2 (by simp only[D.rep])) ⟨hl,ab,by simp[Value.ownBlock],by simp[Value.ownBlock],fun h=>h⟩ rfl
  ·simp only[Value.ownBlock,Ki] at O;refine⟨ab,by simp[Value.ownBlock],fun h=>h⟩
 have dk:=bw aF cd bB U;clear bg aF cd bB U dv;go_loopw [5,6] (fun sv cg wr=>∃(i st:Nat) (IA:Kr) (n ic:Nat) (bI:Kr) (bO:Nat) (cj:Kr) (bc rc:Nat) (L:List hk) (cQ:List Int),sv=.int .i64 st∧cg=.int .i64 i∧i≤256∧st≤8000∧n≤st+1∧bc≤st+1∧i≤n∧
  Ext w wr∧af wr w.heap.size 26 #[.slice GA gn gc,.slice MA mn mc,.slice PA pn pc,.int .i64 u.main]∧af wr (w.heap.size+1) 75 #[.slice none 0 0,.slice none 0 0,.slice none 0 0]∧gZ u (w.heap.size+1+1+1+1) (w.heap.size+1+1) (fun _=>False) wr IA n ic bI i bO cj bc rc L cQ) (fun _ cg _=>257 - (intOf cg).toNat)
 case atStart=>exact⟨0,0,_,_,_,_,_,_,_,_,_,_,rfl,rfl,ab,ab,ab,ab,ab,dk.1,dk.2.1,dk.2.2.1,dk.2.2.2⟩
 case round=>
  obtain⟨i,st,IA,n,ic,bI,bO,cj,bc,rc,L,cQ,rfl,rfl,al,a5,hn,dP,aK,aF,cd,bB,U⟩:=hrel;clear dk;have bu:=bw aF cd bB U;obtain⟨a0,ap,ak⟩:=cd.two;obtain⟨a6,am,aI⟩:=U.blk.two;by_cases aw:i<n
  ·have gI:(0:Int)≤(i:Int):=ab;have cY:(i:Int)<(n:Int):=ab;have dt:Sl wr (au wr) IA n (L.map ff):=U.ins.sl (fun b h _=>h) (fun b h _=>h);obtain⟨b,o,x,cl,ck,ct,dr,an,hx,c0,c1,S,bY⟩:=dt.vt aw;obtain⟨p,h0,hp,aW⟩:=U.ok x (JT hx);obtain⟨ea,da⟩:=x;simp only at h0 hp aW c0 bY;obtain⟨c9,rfl⟩:=JV h0;rw[Kb] at hp;have yA:c9<pn:=by have:=(List.getElem?_eq_some_iff.1 hp).1;omega
   have a9:(0:Int)≤(c9:Int):=ab;have dE:(c9:Int)<(pn:Int):=ab;obtain⟨pb,gL,dI,e4,bZ,eq,rfl,eI,bV,p0,aT,ew,p3,p4,c4,dD⟩:=dl.proc yA;have p4:=(aF.uu.1 pb (gL+c9*5+4) eI).trans p4;have eI:pb<wr.heap.size:=JR eI aF.size;obtain rfl:dI=p:=by rw[hp] at bV;injection bV with bV;exact bV.symm
   subst dr;have f2:dI.code.length=bZ:=by rw[←dD.1,JU]
   have a3:bZ≤201:=by
    obtain⟨s,hs,hl,_⟩:=(cm.procs dI (JT hp)).code;have:dI.code.length≤201:=by rw[hs];simp;omega
    omega
   have b4:=aQ hp aW hx;have ez:=ad dD;clear aF cd bB U dt hx hp aW bV bY dD p0 aT ew p3 S c1;go_upto_region 6 with(fail);refine eE (fun _=>False) [(0,3),(1,0),(2,3),(3,0),(4,3),(5,3),(6,3),(7,0),(8,3),(9,3),(10,0),(11,3)] ?_;refine pf ?_;refine ph ?_;refine pf ?_;refine ph ?_
   iterate 3 refine pf ?_
   refine ph ?_
   iterate 2 refine pf ?_
   refine ph ?_;refine pf ?_;refine aA ?_;have cV:gZ u (w.heap.size+1+1+1+1) (w.heap.size+1+1) (fun _=>False) wr.drew (some ⟨b,o,none⟩) n ic bI i bO cj bc rc L cQ:=bu.2.2.2.on Kn.drew;have dU:=bu.2.2.1.drew;have dT:=bu.2.1.drew;have aS:Ext w wr.drew:=bu.1.drew;replace bu:=bw aS dT dU cV
   clear a0 ap ak a6 am aI c0 p4;clear aS dT dU cV;have du:b<wr.drew.heap.size:=an;clear eI an;revert bu du;generalize wr.drew=wd;intro bu du;obtain⟨d0,ag,aR⟩:=bu.2.2.1.two;by_cases eO:i<256
   case neg=>
    have q1:decide ((i:Int)≥256)=true:=by simp;omega
    exact Fm
   have q1:decide ((i:Int)≥256)=false:=by simp;omega
   by_cases eC:st+bZ≤8000
   case neg=>
    have cB:decide ((st:Int)+bZ > 8000)=true:=by simp;omega
    exact Fm
   have cB:decide ((st:Int)+bZ > 8000)=false:=by simp;omega
   have d3:=fun W=>run_mk (P:=prog) dm .i64 .i64 bZ ab ab W;clear d0 ag aR;go_wp2_with(fail);clear d3;generalize hV:World.alloc _ _=V;have bf:Ext wd V:=hV▸Kn.alloc _;have aG:af V wd.heap.size 3 (madeCells #[.int .i64 0] bZ):=hV▸Ko;have cK:(madeCells #[.int .i64 0] bZ).size=bZ:=size_madeCells _ _;have c6:=dQ cK (bu.1.trans bf) (bu.2.1.ak bf) (bu.2.2.1.ak bf) aG (bu.2.2.2.apart bf (JQ _) aG.lt);clear hV bf aG cK;generalize madeCells #[.int .i64 0] bZ=e6 at c6;have de:=ad (show w.heap.size≤wd.heap.size∧¬w.heap.size=wd.heap.size∧¬w.heap.size+1=wd.heap.size by
    have:=bu.2.2.1.lt;omega)
   clear bu;generalize wd.heap.size=c5 at *;have eW:=ai hn dP;go_loopw [9] (fun er dG=>∃(az:Nat) (cN:Kr) (m cy:Nat) (bp:Kr) (bQ a7:Nat) (bE:List hk) (dj:List Int) (cs:Array Value),er=.int .i64 az∧az≤bZ∧m≤st+az+1∧bQ≤st+az+1∧i<m∧bE[i]?=some ⟨c9,da⟩∧
    cs.size=bZ∧Ext w dG∧af dG w.heap.size 26 #[.slice GA gn gc,.slice MA mn mc,.slice (some ⟨pb,gL,none⟩) pn pc,.int .i64 u.main]∧af dG (w.heap.size+1) 75 #[.slice none 0 0,.slice none 0 0,.slice none 0 0]∧
    af dG c5 3 cs∧gZ u (w.heap.size+1+1+1+1) (w.heap.size+1+1) (fun b=>b=c5) dG cN m cy bI i bO bp bQ a7 bE dj) (fun er _=>bZ - (intOf er).toNat)
   case atStart=>exact⟨0,_,_,_,_,_,_,_,_,_,rfl,ab,ab,ab,aw,b4.2.2,c6.o⟩
   case round=>
    obtain⟨az,cN,m,cy,bp,bQ,a7,bE,dj,cs,rfl,di,hm,cf,dy,dZ,T,aF,cd,bB,aG,U⟩:=hrel;clear c6;have bu:=dA aF cd bB aG U;obtain⟨a0,ap,ak⟩:=cd.two;obtain⟨a6,am,aI⟩:=U.blk.two;by_cases bb:az<bZ
    ·have eU:(az:Int)<(bZ:Int):=ab;have eS:(i:Int)<(m:Int):=ab;have dt:Sl wr (au wr) cN m (bE.map ff):=U.ins.sl (fun b h _=>h) (fun b h _=>h);obtain⟨cZ,eN,ax,ee,eu,et,eF,eP,bP,c0,c1,eV,dF⟩:=dt.vt dy;obtain rfl:ax=⟨c9,da⟩:=by rw[dZ] at bP;injection bP with bP;exact bP.symm
     subst eF;simp only at c0 dF;obtain⟨c7,dK⟩:=aM dF dZ;clear dF bP dt aF cd bB aG U dZ;go_upto_region 14 with(fail);refine tX (fun _=>False) [12] (.held 0 (.free 1 (.held 2 (.free 3 (.free 4 (.held 5 (.free 6 (.pick [7,11] (fun i=>bif i == 7 then .free 8 (.free 9 (.free 10 (.pick [11] (fun _=>.pick [12] (fun _=>.free 13 (.stop)))))) else .pick [7] (fun _=>.free 8 (.free 9 (.free 10 (.pick [12] (fun _=>.free 13 (.stop))))))))))))))) ?_;refine th ?_;refine tf ?_;refine th ?_
     iterate 2 refine tf ?_
     refine th ?_;refine tf ?_;have eY:∀k,k<wr.heap.size→k<wr.drew.heap.size:=fun _ h=>h;refine iw (P:=?oK) (ops:=?G4) (Q:=?G6) (R:=?G7) (tails:=?G8) (rest:=.pick [12] (fun _=>.free 13 (.stop))) (aa:=?G3)
      (C:=fun(cn:Nat) (ok:Bool) (Y:Value) dz=>Ext wr dz∧af dz cn 177 #[.int .i64 0,.slice none 0 0]∧wr.heap.size≤cn∧∃(y:hk) (cC:Kr) (cI cD:Nat),Y=.agg #[.int .i64 y.proc,.slice cC cI cD]∧(ok=true→lL u y)∧cI≤cD∧Sl dz (fun b=>wr.heap.size≤b∧b<dz.heap.size∧b≠cn) cC cI (y.aw.map .i)) (fun key=>?x6) ?xZ
     case x6=>
      refine bq ?_ ?_
      ·
       refine aE rfl (fun K hK=>?_) rfl;go_simp;refine(o5 u cm.o GA gn gc MA mn mc (some ⟨pb,gL,none⟩) pn pc ⟨c9,da⟩ ee eu et dI a9 b4.1 b4.2.1 az ab wr.drew (dl.on bu.1.drew) (c7.on (Fr.ext Kn.drew))).mono ?_;rintro e aN ⟨ok,y,cC,cI,cD,rfl,b9,co,cv,ar⟩;refine dW hK (ar) ?_;clear hK K
       iterate 3 refine tf ?_
       refine ao ?_;refine eZ ?_;generalize bD:World.alloc _ _=Z;have e2:Ext aN Z:=bD▸Kn.alloc _;have b1:wr.heap.size≤aN.heap.size:=ar.size;have F:Ext wr Z∧af Z aN.heap.size 177 #[.int .i64 0,.slice none 0 0]∧wr.heap.size≤aN.heap.size∧∃(d9:hk) (dn:Kr) (db dH:Nat),(Value.agg #[.int .i64 y.proc,.slice cC cI cD])=.agg #[.int .i64 d9.proc,.slice dn db dH]∧(ok=true→lL u d9)∧db≤dH∧Sl Z (fun b=>wr.heap.size≤b∧b<Z.heap.size∧b≠aN.heap.size) dn db (d9.aw.map .i):=
        ⟨(Fr.aO ar).trans e2,by rw[←bD];exact Ko,b1,y,cC,cI,cD,rfl,b9,co,(cv.aj fun b O=>e2.block b O.2 fun h=>h).mono fun b O=>⟨O.1,JR O.2 e2.size,by have:=O.2;omega⟩⟩
       clear bD e2 b1 ar cv b9 co;revert F;generalize aN.heap.size=cn;generalize (Value.agg #[.int .i64 y.proc,.slice cC cI cD])=Y;intro F;exact key cn ok Y _ F
      ·
       refine eZ ?_;generalize hV:World.drew (World.alloc _ _)=c3;have e1:Ext wr c3:=hV▸(Kn.alloc _).drew;have b3:af c3 wr.heap.size 177 #[.int .i64 0,.slice none 0 0]:=hV▸Ko;have b1:=b3.lt;refine ao ?_;refine aE rfl (fun K hK=>?_) rfl;go_simp;refine(o5 u cm.o GA gn gc MA mn mc (some ⟨pb,gL,none⟩) pn pc ⟨c9,da⟩ ee eu et dI a9 b4.1 b4.2.1 az ab c3 (dl.on (bu.1.trans e1)) (c7.on (Fr.ext e1))).mono ?_;rintro e aN ⟨ok,y,cC,cI,cD,rfl,b9,co,cv,ar⟩;refine dW hK (ar) ?_;clear hK K
       iterate 3 refine tf ?_
       have F:Ext wr aN∧af aN wr.heap.size 177 #[.int .i64 0,.slice none 0 0]∧wr.heap.size≤wr.heap.size∧∃(d9:hk) (dn:Kr) (db dH:Nat),(Value.agg #[.int .i64 y.proc,.slice cC cI cD])=.agg #[.int .i64 d9.proc,.slice dn db dH]∧(ok=true→lL u d9)∧db≤dH∧Sl aN (fun b=>wr.heap.size≤b∧b<aN.heap.size∧b≠wr.heap.size) dn db (d9.aw.map .i):=
        ⟨e1.trans ar,b3.ak ar,JQ _,y,cC,cI,cD,rfl,b9,co,cv.mono fun b O=>⟨by have:=O.1;omega,O.2,by have:=O.1;omega⟩⟩
       clear hV e1 b3 b1 ar cv b9 co;revert F key;generalize (Value.agg #[.int .i64 y.proc,.slice cC cI cD])=Y;intro key F;exact key wr.heap.size ok Y _ F
     case xZ=>
      rintro cn ok Y dz ⟨a2,bH,gD,y,cC,cI,cD,rfl,b9,co,cv⟩;obtain⟨br,ah,bj⟩:=bH.two;clear a0 ap ak a6 am aI c0 c1;exact g8
    ·obtain rfl:az=bZ:=ab;obtain⟨xs,dV⟩:=U.Gm;have cM:∀u∈(#[Value.slice (some ⟨c5,0,none⟩) az az]:Array Value).toList,u.oneCell'=true:=fun u hu=>by
      simp only[Kh] at hu;subst hu;rfl
     have aH:w.heap.size+1+1≤wr.heap.size:=by have:=U.blk.lt;omega
     clear aF cd bB aG U;go_wp2_with(at_builtin;refine ch _ Gk rfl (.tmp 103) (.tmp 105) rfl (w.heap.size+1+1) _ i xs _ rfl dV rfl rfl cM ab ab aH ?_;intro v1 aN aL b7 cb;obtain⟨cE,b2,d5,eQ,_⟩:=bs aL;subst d5;have N:Fr (fun b=>(Value.slice bI i bO).ownBlock=some b) wr aN:=Kn.grown b7 (fun g aJ=>.inl aJ);have b3:=bu.2.2.2.2.blk.on N (fun O=>(bu.2.2.2.2.cg _ O).1 rfl);have ca:dc wr bI i bO cE (i+1) b2:=(fun b O=>cb.elim (fun h=>.inl (h▸O)) (fun h=>.inr (by rw[h] at O;injection O with O;omega)));have bW:=aQ aL N ca;clear a6 am aI aL b7 cb N ca dV cM;obtain⟨a6,am,aI⟩:=b3.two;clear b3);generalize hw:World.setCell _ _ _=wf;have aD:=(bu.2.2.2.2.H2 bW.1 bW.2.1 bW.2.2).free;rw[hw] at aD;have a3:=bu.2.2.2.2.cl;have bK:Fr (fun b=>b=w.heap.size+1+1+1+1∨(Value.slice bI i bO).ownBlock=some b) wr wf:=(bW.2.1.mono fun _ h=>.inr h).trans (by rw[←hw];exact(Fr.refl (fun b=>b=w.heap.size+1+1+1+1∨(Value.slice bI i bO).ownBlock=some b) aN).setCell (.inl (.inl rfl)) _);have dC:¬(w.heap.size=w.heap.size+1+1+1+1∨(Value.slice bI i bO).ownBlock=some w.heap.size):=by
      rintro(h|h)
      ·omega
      ·have:=(a3 _ h).1;omega
     have dB:¬(w.heap.size+1=w.heap.size+1+1+1+1∨(Value.slice bI i bO).ownBlock=some (w.heap.size+1)):=by
      rintro(h|h)
      ·omega
      ·have:=(a3 _ h).1;omega
     have dq:Ext w wf:=bu.1.eB (bK.below bu.1.size (by
      rintro k aj (h|h)
      ·omega
      ·have:=(a3 _ h).1;omega))
     have aX:=bw dq (bu.2.1.on bK dC) (bu.2.2.1.on bK dB) aD;clear hw aD a3 bK dC dB dq bu bW a6 am aI;go_roundw
     case rel=>exact⟨i+1,st+az,cN,m,cy,cE,b2,bp,bQ,a7,bE,dj,by go_num,by go_num,ab,ab,ab,ab,ab,aX.o⟩
     case measure=>exact aB
  ·obtain rfl:i=n:=ab;clear aF cd U;obtain⟨d0,ag,aR⟩:=bB.two;clear bB;go_wp2_with(fail);generalize b6:World.setCell _ _ _=Y;obtain⟨bt,bA,bk⟩:=dL (M:=fun _=>False) [.slice IA i ic,.slice bI i bO,.slice cj bc rc] (by rfl) bu.2.2.1 (w:=w) bu.1 ab b6;obtain⟨bv,bd,be⟩:=bt.two;refine Km (v:=.tuple #[.agg #[.slice IA i ic,.slice bI i bO,.slice cj bc rc],.int .i64 0]) (by simp[results,Tryz.results60,go_sem,bv]) rfl ?_;exact⟨_,_,_,_,_,_,_,_,_,_,rfl,bA⟩
end Go.Proofs.YtbkhhfajcgkpgaaGreat

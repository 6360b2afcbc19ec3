/- Part 41 of the proof (CloE), without conditions of its own. -/
import Derived.Test.YtjhgbdckgkppnaaGreatQ31
import Derived.Test.YtjhgbdckgkppnaaGreatQ32
namespace Go.Proofs.YtjhgbdckgkppnaaGreat
open Go.RowKit Go.Proofs.Tryz
set_option maxRecDepth 1000000
set_option maxHeartbeats 25600000
set_option linter.unusedVariables false
namespace zN
theorem gz{p:Prop}(h:p:=by
 refine tf ?_;refine bU ?_;generalize ah:World.setCell _ _ _=X;obtain⟨bz,br,cz⟩:=dA (M:=fun _=>False) [.int .i64 y.proc,.slice aS cM cE] (by rfl) aq b3 gI ah;have d5:Sl X (au X) aS cM (y.av.map .i):=(cF.ao fun b O=>cz.block b O.2.1 O.2.2).mono fun b O=>Gc O.2.1 cz.size;have d4:Sl X (fun b=>wr.heap.size≤b∧b<X.heap.size) aS cM (y.av.map .i):=(cF.ao fun b O=>cz.block b O.2.1 O.2.2).mono fun b O=>⟨O.1,Gc O.2.1 cz.size⟩
 have aU:=cA (a8.1.trans br) (a8.2.1.al br) (a8.2.2.1.al br) (a8.2.2.2.1.al br) (a8.2.2.2.2.on (br.mono fun _ h=>h.elim));have dR:=ae bz;have cT:=aK d5 d4 br;clear ah bz cz br d5 d4 cF aq b3 bD bE b5;have bJ:cs[bQ]?=some (cs[bQ]'ad):=Array.getElem?_eq_getElem ad;have eC:=ae bJ
 cases ok with
 | false=>
  obtain⟨cH,ee,ef⟩:=aU.2.2.2.1.two;go_wp2_with (fail);generalize bo:World.setCell _ _ _=Z;have bn:Fr (fun b=>b=cl) X Z:=bo▸(Fr.refl (fun b=>b=cl) X).setCell (.inl rfl) _;have bm:ag Z cl 3 (cs.setIfInBounds bQ (.int .i64 (-1))):=bo▸aU.2.2.2.1.aH bQ _;have dV:w.heap.size≤cl:=da.1;have bf:=cA (aU.1.eg (bn.below aU.1.size fun k ap h=>ad)) (aU.2.1.on bn da.2.1) (aU.2.2.1.on bn da.2.2) bm (aU.2.2.2.2.on bn);clear bo bn bm cH ee ef;go_roundw
  case rel=>exact⟨bQ+1,some ⟨cW,di,none⟩,m,cN,bI,bG,bq,bZ,dk,_,by go_num,ad,ad,ad,ad,dS.o,by simp;omega,bf.o⟩
  case measure=>simp[intOf];omega
 | true=>
  have ey:=ch rfl;have eF:=ae ey;clear ch ey bJ;obtain⟨a7,am,aE⟩:=aU.2.2.2.2.blk.two;obtain⟨bD,bE,b5⟩:=dR.two;go_wp2_with (fail);have cO:∀z∈bZ,z.av.length≤1000000:=fun z bv=>by
   obtain⟨q,_,bu,hl⟩:=aU.2.2.2.2.ok z bv;have:=(cn.procs q (Ge bu)).av.2;omega
  have eE:=ae cO;clear cO;refine(nY _ m cN _ i bX bI bG bq bZ y aS cM cE X (aU.2.2.2.2.ins.sl (fun b h _=>h) (fun b h _=>h)) cT.1 ad eE.o).mono ?_;rintro e cJ ⟨r,rfl,cK,cR,cj⟩;have aw:=cA (aU.1.trans cj) (aU.2.1.al cj) (aU.2.2.1.al cj) (aU.2.2.2.1.al cj) (aU.2.2.2.2.on (cj.mono fun _ h=>h.elim));have cG:=ae (dR.al cj);have eY:=(cT.2.2.trans cj).size;have cI:=ai (cT.1.on (Fr.ext cj)) ((cT.2.1.ao fun b O=>cj.block b O.2 fun h=>h).mono fun b O=>(⟨O.1,Gc O.2 cj.size⟩:wr.heap.size≤b∧b<cJ.heap.size));clear aU dR cT cj a7 am aE bD bE b5 cK cR;obtain⟨a7,am,aE⟩:=aw.2.2.2.2.blk.two;obtain⟨bD,bE,b5⟩:=cG.two;rcases Int.lt_or_le r 0 with aX|aX
  have eP:decide (r<0)=true:=by simpa using aX
  clear aX;have dd:=a8.2.2.2.2;have dB:=dd.blk.lt;have hD:(eM y).rep cJ (j2 (fun b=>b≠w.heap.size+1+1+1+1∧(Value.slice aV i bX).ownBlock≠some b∧¬b=cl) cJ (.slice (some ⟨cW,di,none⟩) m cN)) [.int .i64 y.proc,.slice aS cM cE]:=
   jz.2 ⟨aS,cE,cM,rfl,cQ,cI.2.mono fun b O=>⟨⟨by have:=O.1;omega,fun h=>by have:=(dd.cl b h).2;have:=O.1;omega,fun h=>by have:=dd.kl b h;have:=O.1;omega⟩,O.2,fun h=>by have:=(dd.ins.lt h).2;have:=O.1;omega⟩⟩
  have df:∀b,(Value.slice (some ⟨cW,di,none⟩) m cN).ownBlock=some b→b<wr.heap.size:=fun b O=>(dd.ins.lt O).2;have c6:=ae hD;have ep:=ae df;have aB:w.heap.size+1+1≤cJ.heap.size:=ad;clear dd dB hD df;go_upto_region 19 with(at_builtin;refine bS DV rfl (.tmp 77) (.tmp 79) rfl aw.2.2.2.2.ins c6.o rfl rfl rfl ad ad aB ?_;intro bR b0 cv d7 cL d9 eJ;have a4:=aK d7 cL d9;have cq:=aw.2.2.2.2.blk.on cL (fun O=>(aw.2.2.2.2.ig _ O).1 rfl);clear a7 am aE bD bE b5 d7 cL d9 eJ;obtain⟨a7,am,aE⟩:=cq.two;clear cq);have ba:=aw.2.2.2.2.Fx eF.o a4.1 a4.2.1 a4.2.2;have cL:=a4.2.1;have dD:=aw.2.2.2.2.ig;have bL:(bZ++[y])[i]?=some ⟨cY,c8⟩:=by rw[List.getElem?_append_left (List.getElem?_eq_some_iff.1 dS.o).1];exact dS.o
  have bp:∀v,Fr (fun b=>b=w.heap.size+1+1+1+1) cv (cv.setCell ⟨w.heap.size+1+1+1+1,0,none⟩ v):=fun v=>(Fr.refl (fun b=>b=w.heap.size+1+1+1+1) cv).setCell (.inl rfl) v;have df:=ep.o;have cS:∀v,Fr (fun b=>b=w.heap.size+1+1+1+1∨(Value.slice (some ⟨cW,di,none⟩) m cN).ownBlock=some b) cJ (cv.setCell ⟨w.heap.size+1+1+1+1,0,none⟩ v):=fun v=>(cL.mono fun _ h=>.inr h).trans ((bp v).mono fun _ h=>.inl h);have c9:=fun b (O:(Value.slice (some ⟨cW,di,none⟩) m cN).ownBlock=some b)=>(aw.2.2.2.2.ins.lt O).1;have cc:=a8.2.2.2.2.blk.lt;have ce:¬(aj=w.heap.size+1+1+1+1∨(Value.slice (some ⟨cW,di,none⟩) m cN).ownBlock=some aj):=by
   rintro(h|h)
   ·omega
   ·have:=df _ h;omega
  have dG:¬(w.heap.size=w.heap.size+1+1+1+1∨(Value.slice (some ⟨cW,di,none⟩) m cN).ownBlock=some w.heap.size):=by
   rintro(h|h)
   ·omega
   ·have:=c9 _ h;omega
  have dF:¬(w.heap.size+1=w.heap.size+1+1+1+1∨(Value.slice (some ⟨cW,di,none⟩) m cN).ownBlock=some (w.heap.size+1)):=by
   rintro(h|h)
   ·omega
   ·have:=c9 _ h;omega
  have ew:¬(cl=w.heap.size+1+1+1+1∨(Value.slice (some ⟨cW,di,none⟩) m cN).ownBlock=some cl):=by
   rintro(h|h)
   ·exact aw.2.2.2.2.kg h.symm
   ·exact(dD _ h).2.2 rfl
  have ex:Sl (cv.setCell ⟨w.heap.size+1+1+1+1,0,none⟩ (.slice bR (m+1) b0)) (au (cv.setCell ⟨w.heap.size+1+1+1+1,0,none⟩ (.slice bR (m+1) b0))) aS cM (y.av.map .i):=
   (cI.2.ao fun b O=>(cS _).block b O.2 (by
    rintro(h|h)
    ·have:=O.1;omega
    ·have:=df _ h;have:=O.1;omega)).mono fun b O=>Gc O.2 (cS (.slice bR (m+1) b0)).size
  have bC:Ext w (cv.setCell ⟨w.heap.size+1+1+1+1,0,none⟩ (.slice bR (m+1) b0)):=aw.1.eg ((cS _).below aw.1.size (by
   rintro k ap (h|h)
   ·omega
   ·have:=c9 _ h;omega))
  have aQ:=CR (show m+1≤st+bQ+1+1 by omega) (show i<m+1 by omega) bL bC (aw.2.1.on (cS (.slice bR (m+1) b0)) dG) (aw.2.2.1.on (cS (.slice bR (m+1) b0)) dF) (aw.2.2.2.1.on (cS (.slice bR (m+1) b0)) ew) ba (cG.on (cS (.slice bR (m+1) b0)) ce) ex;clear bL bp df cS c9 cc ce dG dF ew ex bC ba cL dD aw cG cI a4 ep c6 a7 am aE aB;revert aQ;generalize World.setCell _ _ _=fg;generalize m+1=eg;generalize bZ++[y]=eq;intro aQ
  rotate_left
  have eP:decide (r<0)=false:=by simpa using aX
  clear aX;go_upto_region 19 with(fail);have aQ:=CR (show m≤st+bQ+1+1 by omega) (show i<m by omega) dS.o aw.1 aw.2.1 aw.2.2.1 aw.2.2.2.1 aw.2.2.2.2 cG.o cI.1;clear aw cG cI a7 am aE bD bE b5;revert aQ;generalize cJ=fg;generalize cN=b0;generalize m=eg;generalize bZ=eq;generalize (some ⟨cW,di,none⟩:GR)=bR;intro aQ
  rotate_left
  ·obtain⟨eK,d8,bL,bC,dy,dv,db,ba,dw,dT⟩:=aQ.o;exact CV
  ·obtain⟨eK,d8,bL,bC,dy,dv,db,ba,dw,dT⟩:=aQ.o;exact CV
 ):p:=h
end zN
open zN in
theorem va(u:aF)(hu:cU u)(GA:GR)(gn gc:Nat)(MA:GR)(mn mc:Nat)(PA:GR)(pn pc:Nat)(w:World)(hU:gv w (au w) u GA gn MA mn PA pn) :
  Calls prog 26 #[.agg #[.slice GA gn gc,.slice MA mn mc,.slice PA pn pc,.int .i64 u.main]] w
   fun e ab=>∃(el:GR) (n0 c0:Nat) (cC:GR) (n1 c1:Nat) (A2:GR) (bl c2:Nat) (k:Int),e=.returned (.tuple #[.agg #[.slice el n0 c0,.slice cC n1 c1,.slice A2 bl c2],.int .i64 k])∧Ext w ab:=by
 have ev:u.procs.length=pn:=by rw[←hU.p.1,Gf]
 have gm:pn≤16:=by have:=hu.AU;omega
 have cn:=ae hu;have dn:=ae hU;obtain⟨mp,an,bs,_,aC⟩:=hu.main;have dr:=ae (show kG u ⟨u.main,[]⟩ from ⟨mp,an,bs,by simp[aC]⟩);clear hU hu an bs aC;go_enter func26,ntmps26;go_wp2_with (fail);generalize bg:World.alloc _ _=W;have av:Ext w W:=bg▸((((GN.alloc _).alloc _).alloc _).alloc _).alloc _;have bt:ag W w.heap.size 30 #[.slice GA gn gc,.slice MA mn mc,.slice PA pn pc,.int .i64 u.main]:=bg▸((((GO).alloc _).alloc _).alloc _).alloc _;have aI:ag W (w.heap.size+1) 34 #[.slice none 0 0,.slice none 0 0,.slice none 0 0]:=bg▸(((ag.bR _ _ _ (by simp)).alloc _).alloc _).alloc _;have aT:gp u (w.heap.size+1+1+1+1) (w.heap.size+1+1) (fun _=>False) W (some ⟨w.heap.size+1+1,0,none⟩) 1 1 none 0 0 (some ⟨w.heap.size+1+1+1,0,none⟩) 1 1 [⟨u.main,[]⟩] [0]:=by
  have dq:ag W (w.heap.size+1+1+1) 3 #[.int .i64 0]:=bg▸(ag.bR _ _ _ (by simp)).alloc _;have hl:=dq.lt;refine⟨by rw[←bg];exact ag.bR _ _ _ (by simp),?_,?_,⟨[],⟨by simp,.inl ⟨rfl,rfl⟩⟩⟩,?_,ad,Gb _,fun b O=>?_,fun b O=>(by cases O),fun h=>h,fun _ h=>h.elim⟩
  ·have ac:=Gr.lit (P:=fun b=>b≠w.heap.size+1+1+1+1∧(Value.slice none 0 0).ownBlock≠some b∧¬False) (w:=(w.alloc (.cells #[.slice GA gn gc,.slice MA mn mc,.slice PA pn pc,.int .i64 u.main] 30)).alloc (.cells #[.slice none 0 0,.slice none 0 0,.slice none 0 0] 34))
    (e:=155) (z:=2) (n:=1) (cs:=#[.int .i64 u.main,.slice none 0 0]) (l:=[eM ⟨u.main,[]⟩]) rfl rfl ad (D.bH.2 (jz.2 ⟨none,0,0,rfl,Gb _,Sl.bu _⟩))
   simp only[World.size_alloc] at ac;rw[←bg];exact ac.al ((GN.alloc _).alloc _)
  ·intro x hx;simp only[GH] at hx;subst hx;exact dr.o
  ·exact Sl.qn dq (D.bH.2 (by simp only[D.rep])) ⟨hl,ad,by simp[Value.ownBlock],by simp[Value.ownBlock],fun h=>h⟩ rfl
  ·simp only[Value.ownBlock,GI] at O;refine⟨ad,by simp[Value.ownBlock],fun h=>h⟩
 have dm:=bO av bt aI aT;clear bg av bt aI aT dr;go_loopw [5,6] (fun sv cp wr=>∃(i st:Nat) (IA:GR) (n ic:Nat) (aV:GR) (bX:Nat) (bH:GR) (cm rc:Nat) (L:List gJ) (cy:List Int),sv=.int .i64 st∧cp=.int .i64 i∧i≤256∧st≤8000∧n≤st+1∧cm≤st+1∧i≤n∧
  Ext w wr∧ag wr w.heap.size 30 #[.slice GA gn gc,.slice MA mn mc,.slice PA pn pc,.int .i64 u.main]∧ag wr (w.heap.size+1) 34 #[.slice none 0 0,.slice none 0 0,.slice none 0 0]∧gp u (w.heap.size+1+1+1+1) (w.heap.size+1+1) (fun _=>False) wr IA n ic aV i bX bH cm rc L cy) (fun _ cp _=>257 - (intOf cp).toNat)
 case atStart=>exact⟨0,0,_,_,_,_,_,_,_,_,_,_,rfl,rfl,ad,ad,ad,ad,ad,dm.1,dm.2.1,dm.2.2.1,dm.2.2.2⟩
 case round=>
  obtain⟨i,st,IA,n,ic,aV,bX,bH,cm,rc,L,cy,rfl,rfl,aJ,b8,hn,eO,aA,av,bt,aI,aT⟩:=hrel;clear dm;have a8:=bO av bt aI aT;obtain⟨a0,al,af⟩:=bt.two;obtain⟨a7,am,aE⟩:=aT.blk.two;by_cases ao:i<n
  ·have gU:(0:Int)≤(i:Int):=ad;have c5:(i:Int)<(n:Int):=ad;have dx:Sl wr (au wr) IA n (L.map eM):=aT.ins.sl (fun b h _=>h) (fun b h _=>h);obtain⟨b,o,x,b4,b2,cu,du,U,hx,c0,c1,aG,bh⟩:=dx.s4 ao;obtain⟨p,h0,hp,bN⟩:=aT.ok x (Ge hx);obtain⟨ek,c8⟩:=x;simp only at h0 hp bN c0 bh;obtain⟨cY,rfl⟩:=Gg h0;rw[Gy] at hp;have ed:cY<pn:=by have:=(List.getElem?_eq_some_iff.1 hp).1;omega
   have eb:(0:Int)≤(cY:Int):=ad;have dJ:(cY:Int)<(pn:Int):=ad;obtain⟨eN,gO,dP,fa,ct,e8,rfl,eL,cf,p0,a2,dh,p3,dQ,eZ,dH⟩:=dn.proc ed;have dQ:=(av.oK.1 eN (gO+cY*5+4) eL).trans dQ;have eL:eN<wr.heap.size:=Gc eL av.size;obtain rfl:dP=p:=by rw[hp] at cf;injection cf with cf;exact cf.symm
   subst du;have gK:dP.code.length=ct:=by rw[←dH.1,Gf]
   have a1:ct≤201:=by
    obtain⟨s,hs,hl,_⟩:=(cn.procs dP (Ge hp)).code;have:dP.code.length≤201:=by rw[hs];simp;omega
    omega
   have b9:=aK hp bN hx;have dl:=ae dH;clear av bt aI aT dx hx hp bN cf bh dH p0 a2 dh p3 aG c1;go_upto_region 6 with(fail);refine eh (fun _=>False) [(0,3),(1,0),(2,3),(3,0),(4,3),(5,3),(6,3),(7,0),(8,3),(9,3),(10,0),(11,3)] ?_;refine pf ?_;refine ph ?_;refine pf ?_;refine ph ?_
   iterate 3 refine pf ?_
   refine ph ?_
   iterate 2 refine pf ?_
   refine ph ?_;refine pf ?_;refine aD ?_;have b6:gp u (w.heap.size+1+1+1+1) (w.heap.size+1+1) (fun _=>False) wr.drew (some ⟨b,o,none⟩) n ic aV i bX bH cm rc L cy:=a8.2.2.2.on GN.drew;have d1:=a8.2.2.1.drew;have d0:=a8.2.1.drew;have aO:Ext w wr.drew:=a8.1.drew;replace a8:=bO aO d0 d1 b6
   clear a0 al af a7 am aE c0 dQ;clear aO d0 d1 b6;have de:b<wr.drew.heap.size:=U;clear eL U;revert a8 de;generalize wr.drew=wd;intro a8 de;obtain⟨a6,aL,aP⟩:=a8.2.2.1.two;by_cases eT:i<256
   case neg=>
    have co:decide ((i:Int)≥256)=true:=by simp;omega
    exact C8
   have co:decide ((i:Int)≥256)=false:=by simp;omega
   by_cases eG:st+ct≤8000
   case neg=>
    have ej:decide ((st:Int)+ct > 8000)=true:=by simp;omega
    exact C8
   have ej:decide ((st:Int)+ct > 8000)=false:=by simp;omega
   have dW:=fun W=>run_mk (P:=prog) dj .i64 .i64 ct ad ad W;clear a6 aL aP;go_wp2_with (fail);clear dW;generalize hV:World.alloc _ _=V;have S:Ext wd V:=hV▸GN.alloc _;have bk:ag V wd.heap.size 3 (madeCells #[.int .i64 0] ct):=hV▸GO;have cx:(madeCells #[.int .i64 0] ct).size=ct:=size_madeCells _ _;have b1:=dz cx (a8.1.trans S) (a8.2.1.al S) (a8.2.2.1.al S) bk (a8.2.2.2.apart S (Gb _) bk.lt);clear hV S bk cx;generalize madeCells #[.int .i64 0] ct=fc at b1;have da:=ae (show w.heap.size≤wd.heap.size∧¬w.heap.size=wd.heap.size∧¬w.heap.size+1=wd.heap.size by
    have:=a8.2.2.1.lt;omega)
   clear a8;generalize wd.heap.size=cl at *;have e5:=ai hn eO;go_loopw [9] (fun eQ dL=>∃(bQ:Nat) (cZ:GR) (m cN:Nat) (bI:GR) (bG bq:Nat) (bZ:List gJ) (dk:List Int) (cs:Array Value),eQ=.int .i64 bQ∧bQ≤ct∧m≤st+bQ+1∧bG≤st+bQ+1∧i<m∧bZ[i]?=some ⟨cY,c8⟩∧
    cs.size=ct∧Ext w dL∧ag dL w.heap.size 30 #[.slice GA gn gc,.slice MA mn mc,.slice (some ⟨eN,gO,none⟩) pn pc,.int .i64 u.main]∧ag dL (w.heap.size+1) 34 #[.slice none 0 0,.slice none 0 0,.slice none 0 0]∧
    ag dL cl 3 cs∧gp u (w.heap.size+1+1+1+1) (w.heap.size+1+1) (fun b=>b=cl) dL cZ m cN aV i bX bI bG bq bZ dk) (fun eQ _=>ct - (intOf eQ).toNat)
   case atStart=>exact⟨0,_,_,_,_,_,_,_,_,_,rfl,ad,ad,ad,ao,b9.2.2,b1.o⟩
   case round=>
    obtain⟨bQ,cZ,m,cN,bI,bG,bq,bZ,dk,cs,rfl,dI,hm,cB,dE,d6,T,av,bt,aI,bk,aT⟩:=hrel;clear b1;have a8:=cA av bt aI bk aT;obtain⟨a0,al,af⟩:=bt.two;obtain⟨a7,am,aE⟩:=aT.blk.two;by_cases cd:bQ<ct
    ·have e0:(bQ:Int)<(ct:Int):=ad;have eX:(i:Int)<(m:Int):=ad;have dx:Sl wr (au wr) cZ m (bZ.map eM):=aT.ins.sl (fun b h _=>h) (fun b h _=>h);obtain⟨cW,di,ay,er,eA,ez,eH,eU,bV,c0,c1,e3,dK⟩:=dx.s4 dE;obtain rfl:ay=⟨cY,c8⟩:=by rw[d6] at bV;injection bV with bV;exact bV.symm
     subst eH;simp only at c0 dK;have cX:=ae dK;have dS:=ae d6;clear dK bV dx av bt aI bk aT d6;go_upto_region 14 with(fail);refine o2 (fun _=>False) [12] (.held 0 (.free 1 (.held 2 (.free 3 (.free 4 (.held 5 (.free 6 (.pick [7,11] (fun i=>bif i == 7 then .free 8 (.free 9 (.free 10 (.pick [11] (fun _=>.pick [12] (fun _=>.free 13 (.stop)))))) else .pick [7] (fun _=>.free 8 (.free 9 (.free 10 (.pick [12] (fun _=>.free 13 (.stop))))))))))))))) ?_;refine th ?_;refine tf ?_;refine th ?_
     iterate 2 refine tf ?_
     refine th ?_;refine tf ?_;have e6:∀k,k<wr.heap.size→k<wr.drew.heap.size:=fun _ h=>h;refine f4 (P:=?mM) (ops:=?gQ) (Q:=?gR) (R:=?gS) (tails:=?gT) (rest:=.pick [12] (fun _=>.free 13 (.stop))) (aa:=?gP)
      (C:=fun(aj:Nat) (ok:Bool) (Y:Value) bF=>Ext wr bF∧ag bF aj 155 #[.int .i64 0,.slice none 0 0]∧wr.heap.size≤aj∧∃(y:gJ) (aS:GR) (cM cE:Nat),Y=.agg #[.int .i64 y.proc,.slice aS cM cE]∧(ok=true→kG u y)∧cM≤cE∧Sl bF (fun b=>wr.heap.size≤b∧b<bF.heap.size∧b≠aj) aS cM (y.av.map .i)) (fun key=>?gh) ?gg
     case gh=>
      refine aR ?_ ?_
      ·
       refine az rfl (fun K hK=>?_) rfl;go_simp;refine(nM u cn.o GA gn gc MA mn mc (some ⟨eN,gO,none⟩) pn pc ⟨cY,c8⟩ er eA ez dP eb b9.1 b9.2.1 bQ ad wr.drew (dn.on a8.1.drew) (cX.on (Fr.ext GN.drew))).mono ?_;rintro e aH ⟨ok,y,aS,cM,cE,rfl,ch,cQ,cF,ar⟩;refine hK _ _ (ar) ?_;clear hK K
       try simp only[PU]
       iterate 3 refine tf ?_
       refine ak ?_;refine dU ?_;generalize bo:World.alloc _ _=Z;have e2:Ext aH Z:=bo▸GN.alloc _;have b7:wr.heap.size≤aH.heap.size:=ar.size;have F:Ext wr Z∧ag Z aH.heap.size 155 #[.int .i64 0,.slice none 0 0]∧wr.heap.size≤aH.heap.size∧∃(ei:gJ) (dp:GR) (c7 dN:Nat),(Value.agg #[.int .i64 y.proc,.slice aS cM cE])=.agg #[.int .i64 ei.proc,.slice dp c7 dN]∧(ok=true→kG u ei)∧c7≤dN∧Sl Z (fun b=>wr.heap.size≤b∧b<Z.heap.size∧b≠aH.heap.size) dp c7 (ei.av.map .i):=
        ⟨(Fr.aE ar).trans e2,by rw[←bo];exact GO,b7,y,aS,cM,cE,rfl,ch,cQ,(cF.ao fun b O=>e2.block b O.2 fun h=>h).mono fun b O=>⟨O.1,Gc O.2 e2.size,by have:=O.2;omega⟩⟩
       clear bo e2 b7 ar cF ch cQ;revert F;generalize aH.heap.size=aj;generalize (Value.agg #[.int .i64 y.proc,.slice aS cM cE])=Y;intro F;exact key aj ok Y _ F
      ·
       refine ja ?_;generalize hV:World.drew (World.alloc _ _)=c3;have e1:Ext wr c3:=hV▸(GN.alloc _).drew;have cw:ag c3 wr.heap.size 155 #[.int .i64 0,.slice none 0 0]:=hV▸GO;have b7:=cw.lt;refine ak ?_;refine az rfl (fun K hK=>?_) rfl;go_simp;refine(nM u cn.o GA gn gc MA mn mc (some ⟨eN,gO,none⟩) pn pc ⟨cY,c8⟩ er eA ez dP eb b9.1 b9.2.1 bQ ad c3 (dn.on (a8.1.trans e1)) (cX.on (Fr.ext e1))).mono ?_;rintro e aH ⟨ok,y,aS,cM,cE,rfl,ch,cQ,cF,ar⟩;refine hK _ _ (ar) ?_;clear hK K
       try simp only[PU]
       iterate 3 refine tf ?_
       have F:Ext wr aH∧ag aH wr.heap.size 155 #[.int .i64 0,.slice none 0 0]∧wr.heap.size≤wr.heap.size∧∃(ei:gJ) (dp:GR) (c7 dN:Nat),(Value.agg #[.int .i64 y.proc,.slice aS cM cE])=.agg #[.int .i64 ei.proc,.slice dp c7 dN]∧(ok=true→kG u ei)∧c7≤dN∧Sl aH (fun b=>wr.heap.size≤b∧b<aH.heap.size∧b≠wr.heap.size) dp c7 (ei.av.map .i):=
        ⟨e1.trans ar,cw.al ar,Gb _,y,aS,cM,cE,rfl,ch,cQ,cF.mono fun b O=>⟨by have:=O.1;omega,O.2,by have:=O.1;omega⟩⟩
       clear hV e1 cw b7 ar cF ch cQ;revert F key;generalize (Value.agg #[.int .i64 y.proc,.slice aS cM cE])=Y;intro key F;exact key wr.heap.size ok Y _ F
     case gg=>
      rintro aj ok Y bF ⟨b3,aq,gI,y,aS,cM,cE,rfl,ch,cQ,cF⟩;obtain⟨bD,bE,b5⟩:=aq.two;clear a0 al af a7 am aE c0 c1;exact gy
    ·obtain rfl:bQ=ct:=ad;obtain⟨xs,d2⟩:=aT.D5;have d3:∀u∈(#[Value.slice (some ⟨cl,0,none⟩) bQ bQ]:Array Value).toList,u.oneCell'=true:=fun u hu=>by
      simp only[GH] at hu;subst hu;rfl
     have aB:w.heap.size+1+1≤wr.heap.size:=by have:=aT.blk.lt;omega
     clear av bt aI bk aT;go_wp2_with (at_builtin;refine dM _ DZ rfl (.tmp 103) (.tmp 105) rfl (w.heap.size+1+1) _ i xs _ rfl d2 rfl rfl d3 ad ad aB ?_;intro v1 aH t cg dC;obtain⟨bM,bY,ea,eV,_⟩:=bT t;subst ea;have N:Fr (fun b=>(Value.slice aV i bX).ownBlock=some b) wr aH:=GN.grown cg (fun g aM=>.inl aM);have cw:=a8.2.2.2.2.blk.on N (fun O=>(a8.2.2.2.2.cg _ O).1 rfl);have cr:c4 wr aV i bX bM (i+1) bY:=(fun b O=>dC.elim (fun h=>.inl (h▸O)) (fun h=>.inr (by rw[h] at O;injection O with O;omega)));have bB:=aK t N cr;clear a7 am aE t cg dC N cr d2 d3;obtain⟨a7,am,aE⟩:=cw.two;clear cw);generalize hw:World.setCell _ _ _=wf;have a3:=(a8.2.2.2.2.Fw bB.1 bB.2.1 bB.2.2).free;rw[hw] at a3;have a1:=a8.2.2.2.2.cl;have a5:Fr (fun b=>b=w.heap.size+1+1+1+1∨(Value.slice aV i bX).ownBlock=some b) wr wf:=(bB.2.1.mono fun _ h=>.inr h).trans (by rw[←hw];exact(Fr.refl (fun b=>b=w.heap.size+1+1+1+1∨(Value.slice aV i bX).ownBlock=some b) aH).setCell (.inl (.inl rfl)) _);have dG:¬(w.heap.size=w.heap.size+1+1+1+1∨(Value.slice aV i bX).ownBlock=some w.heap.size):=by
      rintro(h|h)
      ·omega
      ·have:=(a1 _ h).1;omega
     have dF:¬(w.heap.size+1=w.heap.size+1+1+1+1∨(Value.slice aV i bX).ownBlock=some (w.heap.size+1)):=by
      rintro(h|h)
      ·omega
      ·have:=(a1 _ h).1;omega
     have dt:Ext w wf:=a8.1.eg (a5.below a8.1.size (by
      rintro k ap (h|h)
      ·omega
      ·have:=(a1 _ h).1;omega))
     have aZ:=bO dt (a8.2.1.on a5 dG) (a8.2.2.1.on a5 dF) a3;clear hw a3 a1 a5 dG dF dt a8 bB a7 am aE;go_roundw
     case rel=>exact⟨i+1,st+bQ,cZ,m,cN,bM,bY,bI,bG,bq,bZ,dk,by go_num,by go_num,ad,ad,ad,ad,ad,aZ.o⟩
     case measure=>simp[intOf];omega
  ·obtain rfl:i=n:=ad;clear av bt aT;obtain⟨a6,aL,aP⟩:=aI.two;clear aI;go_wp2_with (fail);generalize cb:World.setCell _ _ _=Y;obtain⟨bA,bw,bb⟩:=dA (M:=fun _=>False) [.slice IA i ic,.slice aV i bX,.slice bH cm rc] (by rfl) a8.2.2.1 (w:=w) a8.1 ad cb;obtain⟨bx,bd,be⟩:=bA.two;refine GM (v:=.tuple #[.agg #[.slice IA i ic,.slice aV i bX,.slice bH cm rc],.int .i64 0]) (by simp[results,Tryz.results26,go_sem,bx]) rfl ?_;exact⟨_,_,_,_,_,_,_,_,_,_,rfl,bw⟩
end Go.Proofs.YtjhgbdckgkppnaaGreat

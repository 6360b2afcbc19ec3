/- Part 41 of the proof. No condition of its own. -/
import Derived.Test.YtnhhdaggkiomoaaGreatQ32
import Derived.Test.YtnhhdaggkiomoaaGreatQ33
namespace Go.Proofs.YtnhhdaggkiomoaaGreat
open Go.RowKit Go.Proofs.Tryz
set_option maxRecDepth 1000000
set_option maxHeartbeats 25600000
set_option linter.unusedVariables false
variable{p:Prop}
namespace CM
theorem dC(h:p:=by
 generalize hw:World.setCell _ _ _=wf;have aj:=bV.2;rw[hw] at aj;have ah:Fr (fun b=>b=w.heap.size+1+1+1+1) Z wf:=(bV.1.mono fun _ h=>h.elim).trans (by rw[←hw];exact(Fr.refl (fun b=>b=w.heap.size+1+1+1+1) hZ).setCell (.inl rfl) _);have ev:¬df=w.heap.size+1+1+1+1:=fun h=>aj.kg h.symm;have aW:=cI (bd.1.eN (ah.below bd.1.size fun k ap h=>ad)) (bd.2.1.on ah ad) (bd.2.2.1.on ah ad) (bd.2.2.2.1.on ah ev) aj;clear hw aj ah ev bV a8 am aF;go_wp2_with(fail);go_roundw
 case rel=>exact⟨aP+1,aV,ek,bw,cS,eV,cX,eq,eU,_,by go_num,ad,ad,ad,eu,d5.o,by simp;omega,aW.o⟩
 case measure=>exact aH
 ):p:=h
theorem eQ(h:p:=by
 refine tf ?_;refine b3 ?_;generalize hX:World.setCell _ _ _=X;obtain⟨bo,br,cg⟩:=dU (M:=fun _=>False) [.int .i64 y.proc,.slice da c8 dc] (by rfl) dI cw gs hX;have ea:Sl X (au X) da c8 (y.av.map .i):=(c4.ak fun b O=>cg.block b O.2.1 O.2.2).mono fun b O=>KH O.2.1 cg.size;have d9:Sl X (fun b=>wr.heap.size≤b∧b<X.heap.size) da c8 (y.av.map .i):=(c4.ak fun b O=>cg.block b O.2.1 O.2.2).mono fun b O=>⟨O.1,KH O.2.1 cg.size⟩
 have aQ:=cI (bm.1.trans br) (bm.2.1.ai br) (bm.2.2.1.ai br) (bm.2.2.2.1.ai br) (bm.2.2.2.2.on (br.mono fun _ h=>h.elim));have dW:=ae bo;have dd:=aB ea d9 br;clear hX bo cg br ea d9 c4 dI cw bs aX a4;have b6:cs[aP]?=some (cs[aP]'ad):=Array.getElem?_eq_getElem ad;have eG:=ae b6
 cases ok with
 | false=>
  obtain⟨cK,eh,ej⟩:=aQ.2.2.2.1.two;go_wp2_with(fail);generalize bu:World.setCell _ _ _=Z;have be:=cL bu;have bh:aq Z df 3 (cs.setIfInBounds aP (.int .i64 (-1))):=bu▸aQ.2.2.2.1.aM aP _;have d1:w.heap.size≤df:=du.1;have bd:=cI (aQ.1.eN (be.below aQ.1.size fun k ap h=>ad)) (aQ.2.1.on be du.2.1) (aQ.2.2.1.on be du.2.2) bh (aQ.2.2.2.2.on be);clear bu be bh cK eh ej;go_roundw
  case rel=>exact⟨aP+1,some ⟨cF,fg,none⟩,m,db,bS,bL,bD,a6,dx,_,by go_num,ad,ad,ad,ad,dX.o,by simp;omega,bd.o⟩
  case measure=>exact aH
 | true=>
  have ez:=bZ rfl;have eI:=ae ez;clear bZ ez b6;obtain⟨a8,am,aF⟩:=aQ.2.2.2.2.blk.two;obtain⟨bs,aX,a4⟩:=dW.two;go_wp2_with(fail);have b9:∀z∈a6,z.av.length≤1000000:=fun z bt=>by
   obtain⟨q,_,bK,hl⟩:=aQ.2.2.2.2.ok z bt;have:=(cz.procs q (KJ bK)).av.2;omega
  have eH:=ae b9;clear b9;refine(pN _ m db _ i bJ bS bL bD a6 y da c8 dc X (aQ.2.2.2.2.ins.sl (fun b h _=>h) (fun b h _=>h)) dd.1 ad eH.o).mono ?_;rintro e c6 ⟨r,rfl,cb,dj,bX⟩;have aR:=cI (aQ.1.trans bX) (aQ.2.1.ai bX) (aQ.2.2.1.ai bX) (aQ.2.2.2.1.ai bX) (aQ.2.2.2.2.on (bX.mono fun _ h=>h.elim));have cf:=ae (dW.ai bX);have e4:=(dd.2.2.trans bX).size;have cl:=ag (dd.1.on (Fr.ext bX)) ((dd.2.1.ak fun b O=>bX.block b O.2 fun h=>h).mono fun b O=>(⟨O.1,KH O.2 bX.size⟩:wr.heap.size≤b∧b<c6.heap.size));clear aQ dW dd bX a8 am aF bs aX a4 cb dj;obtain⟨a8,am,aF⟩:=aR.2.2.2.2.blk.two;obtain⟨bs,aX,a4⟩:=cf.two;rcases Int.lt_or_le r 0 with a5|a5
  have eS:decide (r<0)=true:=by simpa using a5
  clear a5;have dv:=bm.2.2.2.2;have cY:=dv.blk.lt;have hD:(fA y).rep c6 (lv (fun b=>b≠w.heap.size+1+1+1+1∧(Value.slice bx i bJ).ownBlock≠some b∧¬b=df) c6 (.slice (some ⟨cF,fg,none⟩) m db)) [.int .i64 y.proc,.slice da c8 dc]:=
   kx.2 ⟨da,dc,c8,rfl,cH,cl.2.mono fun b O=>⟨⟨by have:=O.1;omega,fun h=>by have:=(dv.cl b h).2;have:=O.1;omega,fun h=>by have:=dv.kl b h;have:=O.1;omega⟩,O.2,fun h=>by have:=(dv.ins.lt h).2;have:=O.1;omega⟩⟩
  have dw:∀b,(Value.slice (some ⟨cF,fg,none⟩) m db).ownBlock=some b→b<wr.heap.size:=fun b O=>(dv.ins.lt O).2;obtain⟨cx,ep⟩:=aI hD dw;have S:w.heap.size+1+1≤c6.heap.size:=ad;clear dv cY hD dw;go_upto_region 19 with(at_builtin;refine bQ G9 rfl (.tmp 77) (.tmp 79) rfl aR.2.2.2.2.ins cx.o rfl rfl rfl ad ad S ?_;intro aV bw cQ ee cW ef eR;have al:=aB ee cW ef;have cD:=aR.2.2.2.2.blk.on cW (fun O=>(aR.2.2.2.2.ig _ O).1 rfl);clear a8 am aF bs aX a4 ee cW ef eR;obtain⟨a8,am,aF⟩:=cD.two;clear cD);have av:=aR.2.2.2.2.I2 eI.o al.1 al.2.1 al.2.2;have cW:=al.2.1;have dH:=aR.2.2.2.2.ig;have bC:(a6++[y])[i]?=some ⟨dt,dp⟩:=by rw[List.getElem?_append_left (List.getElem?_eq_some_iff.1 dX.o).1];exact dX.o
  have cj:∀v,Fr (fun b=>b=w.heap.size+1+1+1+1) cQ (cQ.setCell ⟨w.heap.size+1+1+1+1,0,none⟩ v):=fun v=>(Fr.refl (fun b=>b=w.heap.size+1+1+1+1) cQ).setCell (.inl rfl) v;have dw:=ep.o;have cN:∀v,Fr (fun b=>b=w.heap.size+1+1+1+1∨(Value.slice (some ⟨cF,fg,none⟩) m db).ownBlock=some b) c6 (cQ.setCell ⟨w.heap.size+1+1+1+1,0,none⟩ v):=fun v=>(cW.mono fun _ h=>.inr h).trans ((cj v).mono fun _ h=>.inl h);have ds:=fun b (O:(Value.slice (some ⟨cF,fg,none⟩) m db).ownBlock=some b)=>(aR.2.2.2.2.ins.lt O).1;have ci:=bm.2.2.2.2.blk.lt;have cp:¬(az=w.heap.size+1+1+1+1∨(Value.slice (some ⟨cF,fg,none⟩) m db).ownBlock=some az):=by
   rintro(h|h)
   ·omega
   ·have:=dw _ h;omega
  have dL:¬(w.heap.size=w.heap.size+1+1+1+1∨(Value.slice (some ⟨cF,fg,none⟩) m db).ownBlock=some w.heap.size):=by
   rintro(h|h)
   ·omega
   ·have:=ds _ h;omega
  have dK:¬(w.heap.size+1=w.heap.size+1+1+1+1∨(Value.slice (some ⟨cF,fg,none⟩) m db).ownBlock=some (w.heap.size+1)):=by
   rintro(h|h)
   ·omega
   ·have:=ds _ h;omega
  have ex:¬(df=w.heap.size+1+1+1+1∨(Value.slice (some ⟨cF,fg,none⟩) m db).ownBlock=some df):=by
   rintro(h|h)
   ·exact aR.2.2.2.2.kg h.symm
   ·exact(dH _ h).2.2 rfl
  have ey:Sl (cQ.setCell ⟨w.heap.size+1+1+1+1,0,none⟩ (.slice aV (m+1) bw)) (au (cQ.setCell ⟨w.heap.size+1+1+1+1,0,none⟩ (.slice aV (m+1) bw))) da c8 (y.av.map .i):=
   (cl.2.ak fun b O=>(cN _).block b O.2 (by
    rintro(h|h)
    ·have:=O.1;omega
    ·have:=dw _ h;have:=O.1;omega)).mono fun b O=>KH O.2 (cN (.slice aV (m+1) bw)).size
  have aD:Ext w (cQ.setCell ⟨w.heap.size+1+1+1+1,0,none⟩ (.slice aV (m+1) bw)):=aR.1.eN ((cN _).below aR.1.size (by
   rintro k ap (h|h)
   ·omega
   ·have:=ds _ h;omega))
  have aT:=zI (show m+1≤st+aP+1+1 by omega) (show i<m+1 by omega) bC aD (aR.2.1.on (cN (.slice aV (m+1) bw)) dL) (aR.2.2.1.on (cN (.slice aV (m+1) bw)) dK) (aR.2.2.2.1.on (cN (.slice aV (m+1) bw)) ex) av (cf.on (cN (.slice aV (m+1) bw)) cp) ey;clear bC cj dw cN ds ci cp dL dK ex ey aD av cW dH aR cf cl al ep cx a8 am aF S;revert aT;generalize World.setCell _ _ _=fn;generalize m+1=ek;generalize a6++[y]=eq;intro aT
  rotate_left
  have eS:decide (r<0)=false:=by simpa using a5
  clear a5;go_upto_region 19 with(fail);have aT:=zI (show m≤st+aP+1+1 by omega) (show i<m by omega) dX.o aR.1 aR.2.1 aR.2.2.1 aR.2.2.2.1 aR.2.2.2.2 cf.o cl.1;clear aR cf cl a8 am aF bs aX a4;revert aT;generalize c6=fn;generalize db=bw;generalize m=ek;generalize a6=eq;generalize (some ⟨cF,fg,none⟩:Ls)=aV;intro aT
  rotate_left
  all_goals
   obtain⟨e8,eu,bC,aD,dZ,dY,dF,av,bq,ed⟩:=aT.o;obtain⟨a8,am,aF⟩:=av.blk.two;obtain⟨bs,aX,a4⟩:=bq.two;clear bC aD dZ dY dF av bq ed;go_wp2_with(fail);have b9:∀z∈eq,z.av.length≤1000000:=fun z bt=>by
    obtain⟨q,_,bK,hl⟩:=aT.2.2.2.2.2.2.2.1.ok z bt;have:=(cz.procs q (KJ bK)).av.2;omega
   refine(pN aV ek bw bx i bJ bS bL bD eq y da c8 dc fn (aT.2.2.2.2.2.2.2.1.ins.sl (fun b h _=>h) (fun b h _=>h)) aT.2.2.2.2.2.2.2.2.2 ad b9).mono ?_;rintro e hg ⟨gM,rfl,cn,bO,cq⟩;clear a8 am aF bs aX a4 b9 cn bO;obtain⟨_,_,bC,aD,dZ,dY,dF,av,bq,ed⟩:=aT.o;obtain⟨cK,eh,ej⟩:=(dF.ai cq).two;have b6:=eG.o;have b8:=cT bC (aD.trans cq) (dZ.ai cq) (dY.ai cq) (dF.ai cq) (av.on (cq.mono fun _ h=>h.elim));clear bC aD dZ dY dF av bq ed cq aT;go_upto_region 20 with(fail);generalize bu:World.setCell _ _ _=Z;have be:=cL bu;have bh:aq Z df 3 (cs.setIfInBounds aP (.int .i64 gM)):=bu▸b8.2.2.2.2.1.aM aP _;have d1:w.heap.size≤df:=du.1;have a9:Ext w Z:=b8.2.1.eN (be.below b8.2.1.size fun k ap h=>ad);have bd:=cI a9 (b8.2.2.1.on be du.2.1) (b8.2.2.2.1.on be du.2.2) bh (b8.2.2.2.2.2.on be);have d5:=ae b8.1;clear bu be bh cK eh ej d1 b8 b6;obtain⟨bc,b7,c,cells,eo,en,es,EA,em,ec,QA,qm,qc,fd,ff,fb,KA,eF,fa,eO,cv,hc,bU,cm⟩:=dA.DN bk;have aZ:=bU.cells;subst aZ eO;have c0:=(a9.tb.1 bc (b7+aP*12+0) cv).trans (cm 0 _ rfl);simp only[KQ] at c0;clear cm bU hc a9;by_cases bn:c.op=3
   ·rw[bn] at c0;clear bn;have b6:Z.cell? ⟨df,aP,none⟩=some (.int .i64 gM):=by
     rw[bd.2.2.2.1.cell,Array.getElem?_setIfInBounds_self_of_lt ad]
    obtain⟨gu,g5,eL,_⟩:=bd.2.2.2.2.HB.some_ bd.2.2.2.2.wC;subst eL;obtain⟨a8,am,aF⟩:=bd.2.2.2.2.blk.two;have e0:=bd.2.2.2.1.lt;have et:bc<Z.heap.size:=KH cv bd.1.size;go_upto_region 21 with(fail);refine eK (fun _=>False) [(0,3),(1,0),(2,3),(3,3),(4,3),(5,0),(6,2),(7,3),(8,2)] ?_;refine pf ?_;refine ph ?_
    iterate 3 refine pf ?_
    refine ph ?_;refine ax rfl (fun K hK=>?_);go_simp;refine(EH _ gu g5 bL bD dx gM Z.drew (bd.2.2.2.2.on Lo.drew).HB (fun b O=>O.1) ad bd.2.2.2.2.yG bd.2.2.2.2.wC).mono ?_;rintro e hZ ⟨cS,eV,cX,eU,rfl,b1,cn,d4,ch,cP⟩;have dE:Ext Z hZ:=Fr.aF cP;have f2:=bd.2.2.2.2.blk.ai dE;clear a8 am aF c0 b6;obtain⟨a8,am,aF⟩:=f2.two;have aj:=hi.Jz (bd.2.2.2.2.on Lo.drew) rfl ch cP b1 d4;have bV:=ag dE aj;clear ch cP dE f2 aj;exact sw
   ·have ca:(c.op == 3)=false:=by simpa using bn
    clear bn;have et:bc<Z.heap.size:=KH cv bd.1.size;go_wp2_with(fail);go_roundw
    case rel=>exact⟨aP+1,aV,ek,bw,bS,bL,bD,eq,dx,_,by go_num,ad,ad,ad,eu,d5.o,by simp;omega,bd.o⟩
    case measure=>exact aH
 ):p:=h
end CM
open CM in
theorem yd(u:ay)(hu:cZ u)(GA:Ls)(gn gc:Nat)(MA:Ls)(mn mc:Nat)(PA:Ls)(pn pc:Nat)(w:World)(hU:hq w (au w) u GA gn MA mn PA pn) :
  Calls prog 33 #[.agg #[.slice GA gn gc,.slice MA mn mc,.slice PA pn pc,.int .i64 u.main]] w
   fun e ab=>∃(eE:Ls) (n0 c0:Nat) (bY:Ls) (n1 c1:Nat) (A2:Ls) (n2 c2:Nat) (k:Int),e=.returned (.tuple #[.agg #[.slice eE n0 c0,.slice bY n1 c1,.slice A2 n2 c2],.int .i64 k])∧Ext w ab:=by
 have ew:u.procs.length=pn:=by rw[←hU.p.1,KK]
 have gt:pn≤16:=by have:=hu.D1;omega
 obtain⟨cz,dB⟩:=aI hu hU;obtain⟨mp,bB,a1,_,ce⟩:=hu.main;have cR:=ae (show lV u ⟨u.main,[]⟩ from ⟨mp,bB,a1,by simp[ce]⟩);clear hU hu bB a1 ce;go_enter func33,ntmps33;go_wp2_with(fail);generalize ba:World.alloc _ _=W;have aw:Ext w W:=ba▸((((Lo.alloc _).alloc _).alloc _).alloc _).alloc _;have cy:aq W w.heap.size 30 #[.slice GA gn gc,.slice MA mn mc,.slice PA pn pc,.int .i64 u.main]:=ba▸((((Lp).alloc _).alloc _).alloc _).alloc _;have bg:aq W (w.heap.size+1) 34 #[.slice none 0 0,.slice none 0 0,.slice none 0 0]:=ba▸(((aq.hL _ _ _ (by simp)).alloc _).alloc _).alloc _;have N:hi u (w.heap.size+1+1+1+1) (w.heap.size+1+1) (fun _=>False) W (some ⟨w.heap.size+1+1,0,none⟩) 1 1 none 0 0 (some ⟨w.heap.size+1+1+1,0,none⟩) 1 1 [⟨u.main,[]⟩] [0]:=by
  have bM:aq W (w.heap.size+1+1+1) 3 #[.int .i64 0]:=ba▸(aq.hL _ _ _ (by simp)).alloc _;have hl:=bM.lt;refine⟨by rw[←ba];exact aq.hL _ _ _ (by simp),?_,?_,⟨[],⟨by simp,.inl ⟨rfl,rfl⟩⟩⟩,?_,ad,KG _,fun b O=>?_,fun b O=>(by cases O),fun h=>h,fun _ h=>h.elim⟩
  ·have ac:=Gr.lit (P:=fun b=>b≠w.heap.size+1+1+1+1∧(Value.slice none 0 0).ownBlock≠some b∧¬False) (w:=(w.alloc (.cells #[.slice GA gn gc,.slice MA mn mc,.slice PA pn pc,.int .i64 u.main] 30)).alloc (.cells #[.slice none 0 0,.slice none 0 0,.slice none 0 0] 34))
    (e:=158) (z:=2) (n:=1) (cs:=#[.int .i64 u.main,.slice none 0 0]) (l:=[fA ⟨u.main,[]⟩]) rfl rfl ad (D.bj.2 (kx.2 ⟨none,0,0,rfl,KG _,Sl.bO _⟩))
   simp only[World.size_alloc] at ac;rw[←ba];exact ac.ai ((Lo.alloc _).alloc _)
  ·intro x hx;simp only[Li] at hx;subst hx;exact cR.o
  ·exact Sl.sV bM (D.bj.2 (by simp only[D.rep])) ⟨hl,ad,by simp[Value.ownBlock],by simp[Value.ownBlock],fun h=>h⟩ rfl
  ·simp only[Value.ownBlock,Lj] at O;refine⟨ad,by simp[Value.ownBlock],fun h=>h⟩
 have dy:=bH aw cy bg N;clear ba aw cy bg N cR;go_loopw [5,6] (fun sv cu wr=>∃(i st:Nat) (IA:Ls) (n ic:Nat) (bx:Ls) (bJ:Nat) (cc:Ls) (bF rc:Nat) (L:List hP) (b5:List Int),sv=.int .i64 st∧cu=.int .i64 i∧i≤256∧st≤8000∧n≤st+1∧bF≤st+1∧i≤n∧
  Ext w wr∧aq wr w.heap.size 30 #[.slice GA gn gc,.slice MA mn mc,.slice PA pn pc,.int .i64 u.main]∧aq wr (w.heap.size+1) 34 #[.slice none 0 0,.slice none 0 0,.slice none 0 0]∧hi u (w.heap.size+1+1+1+1) (w.heap.size+1+1) (fun _=>False) wr IA n ic bx i bJ cc bF rc L b5) (fun _ cu _=>257 - (intOf cu).toNat)
 case atStart=>exact⟨0,0,_,_,_,_,_,_,_,_,_,_,rfl,rfl,ad,ad,ad,ad,ad,dy.1,dy.2.1,dy.2.2.1,dy.2.2.2⟩
 case round=>
  obtain⟨i,st,IA,n,ic,bx,bJ,cc,bF,rc,L,b5,rfl,rfl,an,co,hn,d3,aJ,aw,cy,bg,N⟩:=hrel;clear dy;have bm:=bH aw cy bg N;obtain⟨a0,ai,af⟩:=cy.two;obtain⟨a8,am,aF⟩:=N.blk.two;by_cases ak:i<n
  ·have f1:(0:Int)≤(i:Int):=ad;have c9:(i:Int)<(n:Int):=ad;have dG:Sl wr (au wr) IA n (L.map fA):=N.ins.sl (fun b h _=>h) (fun b h _=>h);obtain⟨b,o,x,cO,cG,cV,dl,U,hx,c0,c1,aN,cd⟩:=dG.vW ak;obtain⟨p,h0,hp,b0⟩:=N.ok x (KJ hx);obtain⟨eD,dp⟩:=x;simp only at h0 hp b0 c0 cd;obtain⟨dt,rfl⟩:=KL h0;rw[Lc] at hp;have yV:dt<pn:=by have:=(List.getElem?_eq_some_iff.1 hp).1;omega
   have ei:(0:Int)≤(dt:Int):=ad;have dN:(dt:Int)<(pn:Int):=ad;obtain⟨pb,fu,dV,fc,bW,eA,rfl,eN,cM,p0,bf,dR,p3,p4,c7,dM⟩:=dB.proc yV;have p4:=(aw.tb.1 pb (fu+dt*5+4) eN).trans p4;have eN:pb<wr.heap.size:=KH eN aw.size;obtain rfl:dV=p:=by rw[hp] at cM;injection cM with cM;exact cM.symm
   subst dl;have eX:dV.code.length=bW:=by rw[←dM.1,KK]
   have bp:bW≤201:=by
    obtain⟨s,hs,hl,_⟩:=(cz.procs dV (KJ hp)).code;have:dV.code.length≤201:=by rw[hs];simp;omega
    omega
   have ck:=aB hp b0 hx;have dA:=ae dM;clear aw cy bg N dG hx hp b0 cM cd dM p0 bf dR p3 aN c1;go_upto_region 6 with(fail);refine eK (fun _=>False) [(0,3),(1,0),(2,3),(3,0),(4,3),(5,3),(6,3),(7,0),(8,3),(9,3),(10,0),(11,3)] ?_;refine pf ?_;refine ph ?_;refine pf ?_;refine ph ?_
   iterate 3 refine pf ?_
   refine ph ?_
   iterate 2 refine pf ?_
   refine ph ?_;refine pf ?_;refine aE ?_;have cA:hi u (w.heap.size+1+1+1+1) (w.heap.size+1+1) (fun _=>False) wr.drew (some ⟨b,o,none⟩) n ic bx i bJ cc bF rc L b5:=bm.2.2.2.on Lo.drew;have d7:=bm.2.2.1.drew;have d6:=bm.2.1.drew;have a3:Ext w wr.drew:=bm.1.drew;replace bm:=bH a3 d6 d7 cA
   clear a0 ai af a8 am aF c0 p4;clear a3 d6 d7 cA;have dm:b<wr.drew.heap.size:=U;clear eN U;revert bm dm;generalize wr.drew=wd;intro bm dm;obtain⟨d0,aL,aM⟩:=bm.2.2.1.two;by_cases eW:i<256
   case neg=>
    have q1:decide ((i:Int)≥256)=true:=by simp;omega
    exact Gj
   have q1:decide ((i:Int)≥256)=false:=by simp;omega
   by_cases eJ:st+bW≤8000
   case neg=>
    have cB:decide ((st:Int)+bW > 8000)=true:=by simp;omega
    exact Gj
   have cB:decide ((st:Int)+bW > 8000)=false:=by simp;omega
   have d2:=fun W=>run_mk (P:=prog) de .i64 .i64 bW ad ad W;clear d0 aL aM;go_wp2_with(fail);clear d2;generalize hV:World.alloc _ _=V;have bj:=aU hV;have bA:=aG hV;have ct:(madeCells #[.int .i64 0] bW).size=bW:=size_madeCells _ _;have c3:=cT ct (bm.1.trans bj) (bm.2.1.ai bj) (bm.2.2.1.ai bj) bA (bm.2.2.2.apart bj (KG _) bA.lt);clear hV bj bA ct;generalize madeCells #[.int .i64 0] bW=fe at c3;have du:=ae (show w.heap.size≤wd.heap.size∧¬w.heap.size=wd.heap.size∧¬w.heap.size+1=wd.heap.size by
    have:=bm.2.2.1.lt;omega)
   clear bm;generalize wd.heap.size=df at *;have e7:=ag hn d3;go_loopw [9] (fun eT dS=>∃(aP:Nat) (dh:Ls) (m db:Nat) (bS:Ls) (bL bD:Nat) (a6:List hP) (dx:List Int) (cs:Array Value),eT=.int .i64 aP∧aP≤bW∧m≤st+aP+1∧bL≤st+aP+1∧i<m∧a6[i]?=some ⟨dt,dp⟩∧
    cs.size=bW∧Ext w dS∧aq dS w.heap.size 30 #[.slice GA gn gc,.slice MA mn mc,.slice (some ⟨pb,fu,none⟩) pn pc,.int .i64 u.main]∧aq dS (w.heap.size+1) 34 #[.slice none 0 0,.slice none 0 0,.slice none 0 0]∧
    aq dS df 3 cs∧hi u (w.heap.size+1+1+1+1) (w.heap.size+1+1) (fun b=>b=df) dS dh m db bx i bJ bS bL bD a6 dx) (fun eT _=>bW - (intOf eT).toNat)
   case atStart=>exact⟨0,_,_,_,_,_,_,_,_,_,rfl,ad,ad,ad,ak,ck.2.2,c3.o⟩
   case round=>
    obtain⟨aP,dh,m,db,bS,bL,bD,a6,dx,cs,rfl,di,hm,c5,dJ,eb,T,aw,cy,bg,bA,N⟩:=hrel;clear c3;have bm:=cI aw cy bg bA N;obtain⟨a0,ai,af⟩:=cy.two;obtain⟨a8,am,aF⟩:=N.blk.two;by_cases bk:aP<bW
    ·have e5:(aP:Int)<(bW:Int):=ad;have e3:(i:Int)<(m:Int):=ad;have dG:Sl wr (au wr) dh m (a6.map fA):=N.ins.sl (fun b h _=>h) (fun b h _=>h);obtain⟨cF,fg,bv,er,eC,eB,eM,eY,bi,c0,c1,e6,dQ⟩:=dG.vW dJ;obtain rfl:bv=⟨dt,dp⟩:=by rw[eb] at bi;injection bi with bi;exact bi.symm
     subst eM;simp only at c0 dQ;obtain⟨dg,dX⟩:=aI dQ eb;clear dQ bi dG aw cy bg bA N eb;go_upto_region 14 with(fail);refine q4 (fun _=>False) [12] (.held 0 (.free 1 (.held 2 (.free 3 (.free 4 (.held 5 (.free 6 (.pick [7,11] (fun i=>bif i == 7 then .free 8 (.free 9 (.free 10 (.pick [11] (fun _=>.pick [12] (fun _=>.free 13 (.stop)))))) else .pick [7] (fun _=>.free 8 (.free 9 (.free 10 (.pick [12] (fun _=>.free 13 (.stop))))))))))))))) ?_;refine th ?_;refine tf ?_;refine th ?_
     iterate 2 refine tf ?_
     refine th ?_;refine tf ?_;have e9:∀k,k<wr.heap.size→k<wr.drew.heap.size:=fun _ h=>h;refine gU (P:=?oB) (ops:=?Hu) (Q:=?Hw) (R:=?Hy) (tails:=?HI) (rest:=.pick [12] (fun _=>.free 13 (.stop))) (aa:=?G6)
      (C:=fun(az:Nat) (ok:Bool) (Y:Value) bT=>Ext wr bT∧aq bT az 158 #[.int .i64 0,.slice none 0 0]∧wr.heap.size≤az∧∃(y:hP) (da:Ls) (c8 dc:Nat),Y=.agg #[.int .i64 y.proc,.slice da c8 dc]∧(ok=true→lV u y)∧c8≤dc∧Sl bT (fun b=>wr.heap.size≤b∧b<bT.heap.size∧b≠az) da c8 (y.av.map .i)) (fun key=>?wa) ?vY
     case wa=>
      refine aY ?_ ?_
      ·
       refine aC rfl (fun K hK=>?_) rfl;go_simp;refine(pD u cz.o GA gn gc MA mn mc (some ⟨pb,fu,none⟩) pn pc ⟨dt,dp⟩ er eC eB dV ei ck.1 ck.2.1 aP ad wr.drew (dB.on bm.1.drew) (dg.on (Fr.ext Lo.drew))).mono ?_;rintro e aS ⟨ok,y,da,c8,dc,rfl,bZ,cH,c4,ar⟩;refine dz hK (ar) ?_;clear hK K
       iterate 3 refine tf ?_
       refine ao ?_;refine dP ?_;generalize bu:World.alloc _ _=Z;have e2:=aU bu;have cn:wr.heap.size≤aS.heap.size:=ar.size;have F:Ext wr Z∧aq Z aS.heap.size 158 #[.int .i64 0,.slice none 0 0]∧wr.heap.size≤aS.heap.size∧∃(el:hP) (dD:Ls) (dr dT:Nat),(Value.agg #[.int .i64 y.proc,.slice da c8 dc])=.agg #[.int .i64 el.proc,.slice dD dr dT]∧(ok=true→lV u el)∧dr≤dT∧Sl Z (fun b=>wr.heap.size≤b∧b<Z.heap.size∧b≠aS.heap.size) dD dr (el.av.map .i):=
        ⟨(Fr.aF ar).trans e2,by rw[←bu];exact Lp,cn,y,da,c8,dc,rfl,bZ,cH,(c4.ak fun b O=>e2.block b O.2 fun h=>h).mono fun b O=>⟨O.1,KH O.2 e2.size,by have:=O.2;omega⟩⟩
       clear bu e2 cn ar c4 bZ cH;revert F;generalize aS.heap.size=az;generalize (Value.agg #[.int .i64 y.proc,.slice da c8 dc])=Y;intro F;exact key az ok Y _ F
      ·
       refine dP ?_;generalize hV:World.drew (World.alloc _ _)=cC;have e1:=gF hV;have cE:=kp hV;have cn:=cE.lt;refine ao ?_;refine aC rfl (fun K hK=>?_) rfl;go_simp;refine(pD u cz.o GA gn gc MA mn mc (some ⟨pb,fu,none⟩) pn pc ⟨dt,dp⟩ er eC eB dV ei ck.1 ck.2.1 aP ad cC (dB.on (bm.1.trans e1)) (dg.on (Fr.ext e1))).mono ?_;rintro e aS ⟨ok,y,da,c8,dc,rfl,bZ,cH,c4,ar⟩;refine dz hK (ar) ?_;clear hK K
       iterate 3 refine tf ?_
       have F:Ext wr aS∧aq aS wr.heap.size 158 #[.int .i64 0,.slice none 0 0]∧wr.heap.size≤wr.heap.size∧∃(el:hP) (dD:Ls) (dr dT:Nat),(Value.agg #[.int .i64 y.proc,.slice da c8 dc])=.agg #[.int .i64 el.proc,.slice dD dr dT]∧(ok=true→lV u el)∧dr≤dT∧Sl aS (fun b=>wr.heap.size≤b∧b<aS.heap.size∧b≠wr.heap.size) dD dr (el.av.map .i):=
        ⟨e1.trans ar,cE.ai ar,KG _,y,da,c8,dc,rfl,bZ,cH,c4.mono fun b O=>⟨by have:=O.1;omega,O.2,by have:=O.1;omega⟩⟩
       clear hV e1 cE cn ar c4 bZ cH;revert F key;generalize (Value.agg #[.int .i64 y.proc,.slice da c8 dc])=Y;intro key F;exact key wr.heap.size ok Y _ F
     case vY=>
      rintro az ok Y bT ⟨cw,dI,gs,y,da,c8,dc,rfl,bZ,cH,c4⟩;obtain⟨bs,aX,a4⟩:=dI.two;clear a0 ai af a8 am aF c0 c1;exact fj
    ·obtain rfl:aP=bW:=ad;obtain⟨xs,d8⟩:=N.Hi;have bP:∀u∈(#[Value.slice (some ⟨df,0,none⟩) aP aP]:Array Value).toList,u.oneCell'=true:=fun u hu=>by
      simp only[Li] at hu;subst hu;rfl
     have S:w.heap.size+1+1≤wr.heap.size:=by have:=N.blk.lt;omega
     clear aw cy bg bA N;go_wp2_with(at_builtin;refine dk _ He rfl (.tmp 103) (.tmp 105) rfl (w.heap.size+1+1) _ i xs _ rfl d8 rfl rfl bP ad ad S ?_;intro v1 aS bb a7 cU;obtain⟨cJ,bG,eg,eZ,_⟩:=b2 bb;subst eg;have aK:Fr (fun b=>(Value.slice bx i bJ).ownBlock=some b) wr aS:=Lo.grown a7 (fun g a2=>.inl a2);have cE:=bm.2.2.2.2.blk.on aK (fun O=>(bm.2.2.2.2.cg _ O).1 rfl);have bR:dq wr bx i bJ cJ (i+1) bG:=(fun b O=>cU.elim (fun h=>.inl (h▸O)) (fun h=>.inr (by rw[h] at O;injection O with O;omega)));have b4:=aB bb aK bR;clear a8 am aF bb a7 cU aK bR d8 bP;obtain⟨a8,am,aF⟩:=cE.two;clear cE);generalize hw:World.setCell _ _ _=wf;have aj:=(bm.2.2.2.2.I1 b4.1 b4.2.1 b4.2.2).free;rw[hw] at aj;have bp:=bm.2.2.2.2.cl;have ah:Fr (fun b=>b=w.heap.size+1+1+1+1∨(Value.slice bx i bJ).ownBlock=some b) wr wf:=(b4.2.1.mono fun _ h=>.inr h).trans (by rw[←hw];exact(Fr.refl (fun b=>b=w.heap.size+1+1+1+1∨(Value.slice bx i bJ).ownBlock=some b) aS).setCell (.inl (.inl rfl)) _);have dL:¬(w.heap.size=w.heap.size+1+1+1+1∨(Value.slice bx i bJ).ownBlock=some w.heap.size):=by
      rintro(h|h)
      ·omega
      ·have:=(bp _ h).1;omega
     have dK:¬(w.heap.size+1=w.heap.size+1+1+1+1∨(Value.slice bx i bJ).ownBlock=some (w.heap.size+1)):=by
      rintro(h|h)
      ·omega
      ·have:=(bp _ h).1;omega
     have dn:Ext w wf:=bm.1.eN (ah.below bm.1.size (by
      rintro k ap (h|h)
      ·omega
      ·have:=(bp _ h).1;omega))
     have aW:=bH dn (bm.2.1.on ah dL) (bm.2.2.1.on ah dK) aj;clear hw aj bp ah dL dK dn bm b4 a8 am aF;go_roundw
     case rel=>exact⟨i+1,st+aP,dh,m,db,cJ,bG,bS,bL,bD,a6,dx,by go_num,by go_num,ad,ad,ad,ad,ad,aW.o⟩
     case measure=>exact aH
  ·obtain rfl:i=n:=ad;clear aw cy N;obtain⟨d0,aL,aM⟩:=bg.two;clear bg;go_wp2_with(fail);generalize cr:World.setCell _ _ _=Y;obtain⟨bI,bE,bz⟩:=dU (M:=fun _=>False) [.slice IA i ic,.slice bx i bJ,.slice cc bF rc] (by rfl) bm.2.2.1 (w:=w) bm.1 ad cr;obtain⟨bl,aA,aO⟩:=bI.two;refine Ln (v:=.tuple #[.agg #[.slice IA i ic,.slice bx i bJ,.slice cc bF rc],.int .i64 0]) (by simp[results,Tryz.results33,go_sem,bl]) rfl ?_;exact⟨_,_,_,_,_,_,_,_,_,_,rfl,bE⟩
end Go.Proofs.YtnhhdaggkiomoaaGreat

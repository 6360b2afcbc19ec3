/- Part 45 of the proof. No condition of its own. -/
import Derived.Test.YtflecliffjbleaaGreatS35
import Derived.Test.YtflecliffjbleaaGreatS36
namespace Go.Proofs.YtflecliffjbleaaGreat
open Go.RowKit Go.Proofs.Tryz
set_option maxRecDepth 1000000
set_option maxHeartbeats 25600000
set_option linter.unusedVariables false
variable{p:Prop}
namespace Dp
theorem dd(h:p:=by
 generalize hw:World.setCell _ _ _=wf;have ax:=bT.2;rw[hw] at ax;have U:Fr (λb=>b=w.heap.size+1+1+1+1) Z wf:=(bT.1.mono λ_ h=>h.elim).trans (by rw[<-hw];exact(Fr.refl (λb=>b=w.heap.size+1+1+1+1) hW).setCell (.inl rfl) _);have eq:¬du=w.heap.size+1+1+1+1:=λh=>ax.kg h.symm;have a2:=cX (bh.1.eU (U.below bh.1.size λk aj h=>ad)) (bh.2.1.on U ad) (bh.2.2.1.on U ad) (bh.2.2.2.1.on U eq) ax;clear hw ax U eq bT a8 am aJ;go_wp2_with(fail);go_roundw
 case rel=>exact⟨N+1,a3,eg,bj,cV,eR,c4,ej,eQ,_,by go_num,ad,ad,ad,ep,dZ.o,by simp;omega,a2.o⟩
 case measure=>exact aE
 ):p:=h
theorem fO(h:p:=by
 refine tf ?_;refine ck ?_;generalize hX:World.setCell _ _ _=X;obtain⟨bC,bz,ct⟩:=ef (M:=λ_=>False) [.int .i64 y.proc,.slice cY c5 c6] (by rfl) bV bL gP hX;have d5:Sl X (av X) cY c5 (y.ax.map .i):=(bl.ak λb O=>ct.block b O.2.1 O.2.2).mono λb O=>LC O.2.1 ct.size;have d4:Sl X (λb=>wr.heap.size<=b/\b<X.heap.size) cY c5 (y.ax.map .i):=(bl.ak λb O=>ct.block b O.2.1 O.2.2).mono λb O=>⟨O.1,LC O.2.1 ct.size⟩
 have aR:=cX (bM.1.trans bz) (bM.2.1.aj bz) (bM.2.2.1.aj bz) (bM.2.2.2.1.aj bz) (bM.2.2.2.2.on (bz.mono λ_ h=>h.elim));have dO:=ae bC;have da:=aA d5 d4 bz;clear hX bC ct bz d5 d4 bl bV bL bU aX a4;have b4:cs[N]?=some (cs[N]'ad):=Array.getElem?_eq_getElem ad;have eF:=ae b4
 cases ok with
 | false=>
  obtain⟨cS,ed,ee⟩:=aR.2.2.2.1.two;go_wp2_with(fail);generalize bG:World.setCell _ _ _=Z;have bf:=cJ bG;have bt:ao Z du 3 (cs.setIfInBounds N (.int .i64 (-1))):=bG▸aR.2.2.2.1.aJ N _;have dX:w.heap.size<=du:=dq.1;have bh:=cX (aR.1.eU (bf.below aR.1.size λk aj h=>ad)) (aR.2.1.on bf dq.2.1) (aR.2.2.1.on bf dq.2.2) bt (aR.2.2.2.2.on bf);clear bG bf bt cS ed ee;go_roundw
  case rel=>exact⟨N+1,some ⟨c8,fk,none⟩,m,df,bE,bK,bw,a6,dt,_,by go_num,ad,ad,ad,ad,dR.o,by simp;omega,bh.o⟩
  case measure=>exact aE
 | true=>
  have ew:=b8 rfl;have eI:=ae ew;clear b8 ew b4;obtain⟨a8,am,aJ⟩:=aR.2.2.2.2.blk.two;obtain⟨bU,aX,a4⟩:=dO.two;go_wp2_with(fail);have cH:∀z∈a6,z.ax.length<=1000000:=λz aG=>by
   obtain⟨q,_,bv,hl⟩:=aR.2.2.2.2.ok z aG;have:=(cz.procs q (LF bv)).ax.2;omega
  have eH:=ae cH;clear cH;refine(qh _ m df _ i br bE bK bw a6 y cY c5 c6 X (aR.2.2.2.2.ins.sl (λb h _=>h) (λb h _=>h)) da.1 ad eH.o).mono ?_;rintro e cA ⟨r,rfl,b9,de,b7⟩;have aS:=cX (aR.1.trans b7) (aR.2.1.aj b7) (aR.2.2.1.aj b7) (aR.2.2.2.1.aj b7) (aR.2.2.2.2.on (b7.mono λ_ h=>h.elim));have cI:=ae (dO.aj b7);have eY:=(da.2.2.trans b7).size;have cK:=ah (da.1.on (Fr.ext b7)) ((da.2.1.ak λb O=>b7.block b O.2 λh=>h).mono λb O=>(⟨O.1,LC O.2 b7.size⟩:wr.heap.size<=b/\b<cA.heap.size));clear aR dO da b7 a8 am aJ bU aX a4 b9 de;obtain⟨a8,am,aJ⟩:=aS.2.2.2.2.blk.two;obtain⟨bU,aX,a4⟩:=cI.two;rcases Int.lt_or_le r 0 with a9|a9
  have eP:decide (r<0)=true:=by simpa using a9
  clear a9;have dr:=bM.2.2.2.2;have cT:=dr.blk.lt;have hD:(fM y).rep cA (ly (λb=>b≠w.heap.size+1+1+1+1/\(Value.slice S i br).ownBlock≠some b/\¬b=du) cA (.slice (some ⟨c8,fk,none⟩) m df)) [.int .i64 y.proc,.slice cY c5 c6]:=
   kK.2 ⟨cY,c6,c5,rfl,bO,cK.2.mono λb O=>⟨⟨by have:=O.1;omega,λh=>by have:=(dr.cl b h).2;have:=O.1;omega,λh=>by have:=dr.kl b h;have:=O.1;omega⟩,O.2,λh=>by have:=(dr.ins.lt h).2;have:=O.1;omega⟩⟩
  have ds:∀b,(Value.slice (some ⟨c8,fk,none⟩) m df).ownBlock=some b->b<wr.heap.size:=λb O=>(dr.ins.lt O).2;obtain⟨dQ,ei⟩:=aH hD ds;have aB:w.heap.size+1+1<=cA.heap.size:=ad;clear dr cT hD ds;go_upto_region 19 with(at_builtin;refine bI HZ rfl (.tmp 77) (.tmp 79) rfl aS.2.2.2.2.ins dQ.o rfl rfl rfl ad ad aB ?_;intro a3 bj cL d8 cQ ea eO;have aQ:=aA d8 cQ ea;have cE:=aS.2.2.2.2.blk.on cQ (λO=>(aS.2.2.2.2.ig _ O).1 rfl);clear a8 am aJ bU aX a4 d8 cQ ea eO;obtain⟨a8,am,aJ⟩:=cE.two;clear cE);have aW:=aS.2.2.2.2.JT eI.o aQ.1 aQ.2.1 aQ.2.2;have cQ:=aQ.2.1;have dD:=aS.2.2.2.2.ig;have bR:(a6++[y])[i]?=some ⟨dp,dl⟩:=by rw[List.getElem?_append_left (List.getElem?_eq_some_iff.1 dR.o).1];exact dR.o
  have bu:∀v,Fr (λb=>b=w.heap.size+1+1+1+1) cL (cL.setCell ⟨w.heap.size+1+1+1+1,0,none⟩ v):=λv=>(Fr.refl (λb=>b=w.heap.size+1+1+1+1) cL).setCell (.inl rfl) v;have ds:=ei.o;have cN:∀v,Fr (λb=>b=w.heap.size+1+1+1+1\/(Value.slice (some ⟨c8,fk,none⟩) m df).ownBlock=some b) cA (cL.setCell ⟨w.heap.size+1+1+1+1,0,none⟩ v):=λv=>(cQ.mono λ_ h=>.inr h).trans ((bu v).mono λ_ h=>.inl h);have dn:=λb (O:(Value.slice (some ⟨c8,fk,none⟩) m df).ownBlock=some b)=>(aS.2.2.2.2.ins.lt O).1;have cu:=bM.2.2.2.2.blk.lt;have c3:¬(cD=w.heap.size+1+1+1+1\/(Value.slice (some ⟨c8,fk,none⟩) m df).ownBlock=some cD):=by
   rintro(h|h)
   .omega
   .have:=ds _ h;omega
  have dG:¬(w.heap.size=w.heap.size+1+1+1+1\/(Value.slice (some ⟨c8,fk,none⟩) m df).ownBlock=some w.heap.size):=by
   rintro(h|h)
   .omega
   .have:=dn _ h;omega
  have dF:¬(w.heap.size+1=w.heap.size+1+1+1+1\/(Value.slice (some ⟨c8,fk,none⟩) m df).ownBlock=some (w.heap.size+1)):=by
   rintro(h|h)
   .omega
   .have:=dn _ h;omega
  have et:¬(du=w.heap.size+1+1+1+1\/(Value.slice (some ⟨c8,fk,none⟩) m df).ownBlock=some du):=by
   rintro(h|h)
   .exact aS.2.2.2.2.kg h.symm
   .exact(dD _ h).2.2 rfl
  have ev:Sl (cL.setCell ⟨w.heap.size+1+1+1+1,0,none⟩ (.slice a3 (m+1) bj)) (av (cL.setCell ⟨w.heap.size+1+1+1+1,0,none⟩ (.slice a3 (m+1) bj))) cY c5 (y.ax.map .i):=
   (cK.2.ak λb O=>(cN _).block b O.2 (by
    rintro(h|h)
    .have:=O.1;omega
    .have:=ds _ h;have:=O.1;omega)).mono λb O=>LC O.2 (cN (.slice a3 (m+1) bj)).size
  have db:Ext w (cL.setCell ⟨w.heap.size+1+1+1+1,0,none⟩ (.slice a3 (m+1) bj)):=aS.1.eU ((cN _).below aS.1.size (by
   rintro k aj (h|h)
   .omega
   .have:=dn _ h;omega))
  have aU:=As (show m+1<=st+N+1+1 by omega) (show i<m+1 by omega) bR db (aS.2.1.on (cN (.slice a3 (m+1) bj)) dG) (aS.2.2.1.on (cN (.slice a3 (m+1) bj)) dF) (aS.2.2.2.1.on (cN (.slice a3 (m+1) bj)) et) aW (cI.on (cN (.slice a3 (m+1) bj)) c3) ev;clear bR bu ds cN dn cu c3 dG dF et ev db aW cQ dD aS cI cK aQ ei dQ a8 am aJ aB;revert aU;generalize World.setCell _ _ _=fn;generalize m+1=eg;generalize a6++[y]=ej;intro aU
  rotate_left
  have eP:decide (r<0)=false:=by simpa using a9
  clear a9;go_upto_region 19 with(fail);have aU:=As (show m<=st+N+1+1 by omega) (show i<m by omega) dR.o aS.1 aS.2.1 aS.2.2.1 aS.2.2.2.1 aS.2.2.2.2 cI.o cK.1;clear aS cI cK a8 am aJ bU aX a4;revert aU;generalize cA=fn;generalize df=bj;generalize m=eg;generalize a6=ej;generalize (some ⟨c8,fk,none⟩:Mk)=a3;intro aU
  rotate_left
  all_goals
   obtain⟨e4,ep,bR,db,dV,dS,dB,aW,b1,d7⟩:=aU.o;obtain⟨a8,am,aJ⟩:=aW.blk.two;obtain⟨bU,aX,a4⟩:=b1.two;clear bR db dV dS dB aW b1 d7;go_wp2_with(fail);have cH:∀z∈ej,z.ax.length<=1000000:=λz aG=>by
    obtain⟨q,_,bv,hl⟩:=aU.2.2.2.2.2.2.2.1.ok z aG;have:=(cz.procs q (LF bv)).ax.2;omega
   refine(qh a3 eg bj S i br bE bK bw ej y cY c5 c6 fn (aU.2.2.2.2.2.2.2.1.ins.sl (λb h _=>h) (λb h _=>h)) aU.2.2.2.2.2.2.2.2.2 ad cH).mono ?_;rintro e gX ⟨gR,rfl,cg,bP,bb⟩;clear a8 am aJ bU aX a4 cH cg bP;obtain⟨_,_,bR,db,dV,dS,dB,aW,b1,d7⟩:=aU.o;obtain⟨cS,ed,ee⟩:=(dB.aj bb).two;have b4:=eF.o;have cf:=dI bR (db.trans bb) (dV.aj bb) (dS.aj bb) (dB.aj bb) (aW.on (bb.mono λ_ h=>h.elim));clear bR db dV dS dB aW b1 d7 bb aU;go_upto_region 20 with(fail);generalize bG:World.setCell _ _ _=Z;have bf:=cJ bG;have bt:ao Z du 3 (cs.setIfInBounds N (.int .i64 gR)):=bG▸cf.2.2.2.2.1.aJ N _;have dX:w.heap.size<=du:=dq.1;have ba:Ext w Z:=cf.2.1.eU (bf.below cf.2.1.size λk aj h=>ad);have bh:=cX ba (cf.2.2.1.on bf dq.2.1) (cf.2.2.2.1.on bf dq.2.2) bt (cf.2.2.2.2.2.on bf);have dZ:=ae cf.1;clear bG bf bt cS ed ee dX cf b4;obtain⟨bc,bB,c,cells,eo,en,es,EA,em,ec,QA,qm,qc,e9,fb,e7,KA,eD,e6,eN,cv,hc,bX,cb⟩:=dv.El bk;have a7:=bX.cells;subst a7 eN;have c0:=(ba.tG.1 bc (bB+N*12+0) cv).trans (cb 0 _ rfl);simp only[LM] at c0;clear cb bX hc ba;by_cases bn:c.op=3
   .rw[bn] at c0;clear bn;have b4:Z.cell? ⟨du,N,none⟩=some (.int .i64 gR):=by
     rw[bh.2.2.2.1.cell,Array.getElem?_setIfInBounds_self_of_lt ad]
    obtain⟨gq,g4,eG,_⟩:=bh.2.2.2.2.Iu.some_ bh.2.2.2.2.w5;subst eG;obtain⟨a8,am,aJ⟩:=bh.2.2.2.2.blk.two;have eW:=bh.2.2.2.1.lt;have el:bc<Z.heap.size:=LC cv bh.1.size;go_upto_region 21 with(fail);refine eK (λ_=>False) [(0,3),(1,0),(2,3),(3,3),(4,3),(5,0),(6,2),(7,3),(8,2)] ?_;refine pf ?_;refine ph ?_
    iterate 3 refine pf ?_
    refine ph ?_;refine au rfl (λK hK=>?_);go_simp;refine(Fl _ gq g4 bK bw dt gR Z.drew (bh.2.2.2.2.on Mg.drew).Iu (λb O=>O.1) ad bh.2.2.2.2.zq bh.2.2.2.2.w5).mono ?_;rintro e hW ⟨cV,eR,c4,eQ,rfl,b2,cg,dY,b0,cR⟩;have dA:Ext Z hW:=Fr.aF cR;have gy:=bh.2.2.2.2.blk.aj dA;clear a8 am aJ c0 b4;obtain⟨a8,am,aJ⟩:=gy.two;have ax:=hL.Kp (bh.2.2.2.2.on Mg.drew) rfl b0 cR b2 dY;have bT:=ah dA ax;clear b0 cR dA gy ax;exact ny
   .have bW:(c.op == 3)=false:=by simpa using bn
    clear bn;have el:bc<Z.heap.size:=LC cv bh.1.size;go_wp2_with(fail);go_roundw
    case rel=>exact⟨N+1,a3,eg,bj,bE,bK,bw,ej,dt,_,by go_num,ad,ad,ad,ep,dZ.o,by simp;omega,bh.o⟩
    case measure=>exact aE
 ):p:=h
end Dp
open Dp in
theorem yN(u:aw)(hu:dg u)(GA:Mk)(gn gc:Nat)(MA:Mk)(mn mc:Nat)(PA:Mk)(pn pc:Nat)(w:World)(hU:hY w (av w) u GA gn MA mn PA pn) :
  Calls prog 57 #[.agg #[.slice GA gn gc,.slice MA mn mc,.slice PA pn pc,.int .i64 u.main]] w
   λe ab=>∃(eC:Mk) (n0 c0:Nat) (cp:Mk) (n1 c1:Nat) (A2:Mk) (n2 c2:Nat) (k:Int),e=.returned (.tuple #[.agg #[.slice eC n0 c0,.slice cp n1 c1,.slice A2 n2 c2],.int .i64 k])/\Ext w ab:=by
 have er:u.procs.length=pn:=by rw[<-hU.p.1,LG]
 have gT:pn<=16:=by have:=hu.Hz;omega
 obtain⟨cz,dy⟩:=aH hu hU;obtain⟨mp,bQ,cF,_,bY⟩:=hu.main;have eV:=ae (show mh u ⟨u.main,[]⟩ from ⟨mp,bQ,cF,by simp[bY]⟩);clear hU hu bQ cF bY;go_enter func57,ntmps57;go_wp2_with(fail);generalize bd:World.alloc _ _=W;have aF:Ext w W:=bd▸((((Mg.alloc _).alloc _).alloc _).alloc _).alloc _;have bS:ao W w.heap.size 26 #[.slice GA gn gc,.slice MA mn mc,.slice PA pn pc,.int .i64 u.main]:=bd▸((((Mh).alloc _).alloc _).alloc _).alloc _;have a1:ao W (w.heap.size+1) 74 #[.slice none 0 0,.slice none 0 0,.slice none 0 0]:=bd▸(((ao.gA _ _ _ (by simp)).alloc _).alloc _).alloc _;have ag:hL u (w.heap.size+1+1+1+1) (w.heap.size+1+1) (λ_=>False) W (some ⟨w.heap.size+1+1,0,none⟩) 1 1 none 0 0 (some ⟨w.heap.size+1+1+1,0,none⟩) 1 1 [⟨u.main,[]⟩] [0]:=by
  have co:ao W (w.heap.size+1+1+1) 3 #[.int .i64 0]:=bd▸(ao.gA _ _ _ (by simp)).alloc _;have hl:=co.lt;refine⟨by rw[<-bd];exact ao.gA _ _ _ (by simp),?_,?_,⟨[],⟨by simp,.inl ⟨rfl,rfl⟩⟩⟩,?_,ad,Lz _,λb O=>?_,λb O=>(by cases O),λh=>h,λ_ h=>h.elim⟩
  .have ac:=Gr.lit (P:=λb=>b≠w.heap.size+1+1+1+1/\(Value.slice none 0 0).ownBlock≠some b/\¬False) (w:=(w.alloc (.cells #[.slice GA gn gc,.slice MA mn mc,.slice PA pn pc,.int .i64 u.main] 26)).alloc (.cells #[.slice none 0 0,.slice none 0 0,.slice none 0 0] 74))
    (e:=176) (z:=2) (n:=1) (cs:=#[.int .i64 u.main,.slice none 0 0]) (l:=[fM ⟨u.main,[]⟩]) rfl rfl ad (D.bw.2 (kK.2 ⟨none,0,0,rfl,Lz _,Sl.bT _⟩))
   simp only[World.size_alloc] at ac;rw[<-bd];exact ac.aj ((Mg.alloc _).alloc _)
  .intro x hx;simp only[Ma] at hx;subst hx;exact eV.o
  .exact Sl.nP co (D.bw.2 (by simp only[D.rep])) ⟨hl,ad,by simp[Value.ownBlock],by simp[Value.ownBlock],λh=>h⟩ rfl
  .simp only[Value.ownBlock,Mb] at O;refine⟨ad,by simp[Value.ownBlock],λh=>h⟩
 have dw:=bA aF bS a1 ag;clear bd aF bS a1 ag eV;go_loopw [5,6] (λsv cw wr=>∃(i st:Nat) (IA:Mk) (n ic:Nat) (S:Mk) (br:Nat) (cc:Mk) (bZ rc:Nat) (L:List h7) (cB:List Int),sv=.int .i64 st/\cw=.int .i64 i/\i<=256/\st<=8000/\n<=st+1/\bZ<=st+1/\i<=n/\
  Ext w wr/\ao wr w.heap.size 26 #[.slice GA gn gc,.slice MA mn mc,.slice PA pn pc,.int .i64 u.main]/\ao wr (w.heap.size+1) 74 #[.slice none 0 0,.slice none 0 0,.slice none 0 0]/\hL u (w.heap.size+1+1+1+1) (w.heap.size+1+1) (λ_=>False) wr IA n ic S i br cc bZ rc L cB) (λ_ cw _=>257 - (intOf cw).toNat)
 case atStart=>exact⟨0,0,_,_,_,_,_,_,_,_,_,_,rfl,rfl,ad,ad,ad,ad,ad,dw.1,dw.2.1,dw.2.2.1,dw.2.2.2⟩
 case round=>
  obtain⟨i,st,IA,n,ic,S,br,cc,bZ,rc,L,cB,rfl,rfl,al,cm,hn,dW,az,aF,bS,a1,ag⟩:=hrel;clear dw;have bM:=bA aF bS a1 ag;obtain⟨a0,ak,af⟩:=bS.two;obtain⟨a8,am,aJ⟩:=ag.blk.two;by_cases ap:i<n
  .have f1:(0:Int)<=(i:Int):=ad;have cZ:(i:Int)<(n:Int):=ad;have dC:Sl wr (av wr) IA n (L.map fM):=ag.ins.sl (λb h _=>h) (λb h _=>h);obtain⟨b,o,x,cr,cd,cC,dj,an,hx,c0,c1,aL,ce⟩:=dC.wD ap;obtain⟨p,h0,hp,b3⟩:=ag.ok x (LF hx);obtain⟨eB,dl⟩:=x;simp only at h0 hp b3 c0 ce;obtain⟨dp,rfl⟩:=LH h0;rw[LZ] at hp;have zG:dp<pn:=by have:=(List.getElem?_eq_some_iff.1 hp).1;omega
   have bF:(0:Int)<=(dp:Int):=ad;have dJ:(dp:Int)<(pn:Int):=ad;obtain⟨pb,gW,dN,e8,cx,ey,rfl,dT,ci,p0,ai,eE,p3,p4,c7,dH⟩:=dy.proc zG;have p4:=(aF.tG.1 pb (gW+dp*5+4) dT).trans p4;have dT:pb<wr.heap.size:=LC dT aF.size;obtain rfl:dN=p:=by rw[hp] at ci;injection ci with ci;exact ci.symm
   subst dj;have f2:dN.code.length=cx:=by rw[<-dH.1,LG]
   have bq:cx<=201:=by
    obtain⟨s,hs,hl,_⟩:=(cz.procs dN (LF hp)).code;have:dN.code.length<=201:=by rw[hs];simp;omega
    omega
   have cj:=aA hp b3 hx;have dv:=ae dH;clear aF bS a1 ag dC hx hp b3 ci ce dH p0 ai eE p3 aL c1;go_upto_region 6 with(fail);refine eK (λ_=>False) [(0,3),(1,0),(2,3),(3,0),(4,3),(5,3),(6,3),(7,0),(8,3),(9,3),(10,0),(11,3)] ?_;refine pf ?_;refine ph ?_;refine pf ?_;refine ph ?_
   iterate 3 refine pf ?_
   refine ph ?_
   iterate 2 refine pf ?_
   refine ph ?_;refine pf ?_;refine aC ?_;have cM:hL u (w.heap.size+1+1+1+1) (w.heap.size+1+1) (λ_=>False) wr.drew (some ⟨b,o,none⟩) n ic S i br cc bZ rc L cB:=bM.2.2.2.on Mg.drew;have d2:=bM.2.2.1.drew;have d1:=bM.2.1.drew;have aT:Ext w wr.drew:=bM.1.drew;replace bM:=bA aT d1 d2 cM
   clear a0 ak af a8 am aJ c0 p4;clear aT d1 d2 cM;have di:b<wr.drew.heap.size:=an;clear dT an;revert bM di;generalize wr.drew=wd;intro bM di;obtain⟨d0,aK,aO⟩:=bM.2.2.1.two;by_cases eS:i<256
   case neg=>
    have q1:decide ((i:Int)>=256)=true:=by simp;omega
    exact G9
   have q1:decide ((i:Int)>=256)=false:=by simp;omega
   by_cases eJ:st+cx<=8000
   case neg=>
    have cO:decide ((st:Int)+cx > 8000)=true:=by simp;omega
    exact G9
   have cO:decide ((st:Int)+cx > 8000)=false:=by simp;omega
   have d9:=λW=>run_mk (P:=prog) cU .i64 .i64 cx ad ad W;clear d0 aK aO;go_wp2_with(fail);clear d9;generalize hV:World.alloc _ _=V;have bo:=aZ hV;have bs:=aN hV;have b6:(madeCells #[.int .i64 0] cx).size=cx:=size_madeCells _ _;have c9:=dI b6 (bM.1.trans bo) (bM.2.1.aj bo) (bM.2.2.1.aj bo) bs (bM.2.2.2.apart bo (Lz _) bs.lt);clear hV bo bs b6;generalize madeCells #[.int .i64 0] cx=fa at c9;have dq:=ae (show w.heap.size<=wd.heap.size/\¬w.heap.size=wd.heap.size/\¬w.heap.size+1=wd.heap.size by
    have:=bM.2.2.1.lt;omega)
   clear bM;generalize wd.heap.size=du at *;have e3:=ah hn dW;go_loopw [9] (λex dL=>∃(N:Nat) (dk:Mk) (m df:Nat) (bE:Mk) (bK bw:Nat) (a6:List h7) (dt:List Int) (cs:Array Value),ex=.int .i64 N/\N<=cx/\m<=st+N+1/\bK<=st+N+1/\i<m/\a6[i]?=some ⟨dp,dl⟩/\
    cs.size=cx/\Ext w dL/\ao dL w.heap.size 26 #[.slice GA gn gc,.slice MA mn mc,.slice (some ⟨pb,gW,none⟩) pn pc,.int .i64 u.main]/\ao dL (w.heap.size+1) 74 #[.slice none 0 0,.slice none 0 0,.slice none 0 0]/\
    ao dL du 3 cs/\hL u (w.heap.size+1+1+1+1) (w.heap.size+1+1) (λb=>b=du) dL dk m df S i br bE bK bw a6 dt) (λex _=>cx - (intOf ex).toNat)
   case atStart=>exact⟨0,_,_,_,_,_,_,_,_,_,rfl,ad,ad,ad,ap,cj.2.2,c9.o⟩
   case round=>
    obtain⟨N,dk,m,df,bE,bK,bw,a6,dt,cs,rfl,dc,hm,cW,dE,d6,T,aF,bS,a1,bs,ag⟩:=hrel;clear c9;have bM:=cX aF bS a1 bs ag;obtain⟨a0,ak,af⟩:=bS.two;obtain⟨a8,am,aJ⟩:=ag.blk.two;by_cases bk:N<cx
    .have eZ:(N:Int)<(cx:Int):=ad;have eX:(i:Int)<(m:Int):=ad;have dC:Sl wr (av wr) dk m (a6.map fM):=ag.ins.sl (λb h _=>h) (λb h _=>h);obtain⟨c8,fk,bm,ek,eA,ez,eL,eT,bi,c0,c1,e0,dK⟩:=dC.wD dE;obtain rfl:bm=⟨dp,dl⟩:=by rw[d6] at bi;injection bi with bi;exact bi.symm
     subst eL;simp only at c0 dK;obtain⟨dh,dR⟩:=aH dK d6;clear dK bi dC aF bS a1 bs ag d6;go_upto_region 14 with(fail);refine tw (λ_=>False) [12] (.held 0 (.free 1 (.held 2 (.free 3 (.free 4 (.held 5 (.free 6 (.pick [7,11] (λi=>bif i == 7 then .free 8 (.free 9 (.free 10 (.pick [11] (λ_=>.pick [12] (λ_=>.free 13 (.stop)))))) else .pick [7] (λ_=>.free 8 (.free 9 (.free 10 (.pick [12] (λ_=>.free 13 (.stop))))))))))))))) ?_;refine th ?_;refine tf ?_;refine th ?_
     iterate 2 refine tf ?_
     refine th ?_;refine tf ?_;have e5:∀k,k<wr.heap.size->k<wr.drew.heap.size:=λ_ h=>h;refine iV (P:=?pI) (ops:=?IM) (Q:=?IP) (R:=?IQ) (tails:=?IT) (rest:=.pick [12] (λ_=>.free 13 (.stop))) (aa:=?IL)
      (C:=λ(cD:Nat) (ok:Bool) (Y:Value) fg=>Ext wr fg/\ao fg cD 176 #[.int .i64 0,.slice none 0 0]/\wr.heap.size<=cD/\∃(y:h7) (cY:Mk) (c5 c6:Nat),Y=.agg #[.int .i64 y.proc,.slice cY c5 c6]/\(ok=true->mh u y)/\c5<=c6/\Sl fg (λb=>wr.heap.size<=b/\b<fg.heap.size/\b≠cD) cY c5 (y.ax.map .i)) (λkey=>?ze) ?y7
     case ze=>
      refine a5 ?_ ?_
      ·
       refine aD rfl (λK hK=>?_) rfl;go_simp;refine(pY u cz.o GA gn gc MA mn mc (some ⟨pb,gW,none⟩) pn pc ⟨dp,dl⟩ ek eA ez dN bF cj.1 cj.2.1 N ad wr.drew (dy.on bM.1.drew) (dh.on (Fr.ext Mg.drew))).mono ?_;rintro e aP ⟨ok,y,cY,c5,c6,rfl,b8,bO,bl,ar⟩;refine dP hK (ar) ?_;clear hK K
       iterate 3 refine tf ?_
       refine aq ?_;refine eu ?_;generalize bG:World.alloc _ _=Z;have e2:=aZ bG;have cg:wr.heap.size<=aP.heap.size:=ar.size;have F:Ext wr Z/\ao Z aP.heap.size 176 #[.int .i64 0,.slice none 0 0]/\wr.heap.size<=aP.heap.size/\∃(eh:h7) (dz:Mk) (dm dM:Nat),(Value.agg #[.int .i64 y.proc,.slice cY c5 c6])=.agg #[.int .i64 eh.proc,.slice dz dm dM]/\(ok=true->mh u eh)/\dm<=dM/\Sl Z (λb=>wr.heap.size<=b/\b<Z.heap.size/\b≠aP.heap.size) dz dm (eh.ax.map .i):=
        ⟨(Fr.aF ar).trans e2,by rw[<-bG];exact Mh,cg,y,cY,c5,c6,rfl,b8,bO,(bl.ak λb O=>e2.block b O.2 λh=>h).mono λb O=>⟨O.1,LC O.2 e2.size,by have:=O.2;omega⟩⟩
       clear bG e2 cg ar bl b8 bO;revert F;generalize aP.heap.size=cD;generalize (Value.agg #[.int .i64 y.proc,.slice cY c5 c6])=Y;intro F;exact key cD ok Y _ F
      ·
       refine eu ?_;generalize hV:World.drew (World.alloc _ _)=fh;have e1:=hh hV;have cn:=lP hV;have cg:=cn.lt;refine aq ?_;refine aD rfl (λK hK=>?_) rfl;go_simp;refine(pY u cz.o GA gn gc MA mn mc (some ⟨pb,gW,none⟩) pn pc ⟨dp,dl⟩ ek eA ez dN bF cj.1 cj.2.1 N ad fh (dy.on (bM.1.trans e1)) (dh.on (Fr.ext e1))).mono ?_;rintro e aP ⟨ok,y,cY,c5,c6,rfl,b8,bO,bl,ar⟩;refine dP hK (ar) ?_;clear hK K
       iterate 3 refine tf ?_
       have F:Ext wr aP/\ao aP wr.heap.size 176 #[.int .i64 0,.slice none 0 0]/\wr.heap.size<=wr.heap.size/\∃(eh:h7) (dz:Mk) (dm dM:Nat),(Value.agg #[.int .i64 y.proc,.slice cY c5 c6])=.agg #[.int .i64 eh.proc,.slice dz dm dM]/\(ok=true->mh u eh)/\dm<=dM/\Sl aP (λb=>wr.heap.size<=b/\b<aP.heap.size/\b≠wr.heap.size) dz dm (eh.ax.map .i):=
        ⟨e1.trans ar,cn.aj ar,Lz _,y,cY,c5,c6,rfl,b8,bO,bl.mono λb O=>⟨by have:=O.1;omega,O.2,by have:=O.1;omega⟩⟩
       clear hV e1 cn cg ar bl b8 bO;revert F key;generalize (Value.agg #[.int .i64 y.proc,.slice cY c5 c6])=Y;intro key F;exact key wr.heap.size ok Y _ F
     case y7=>
      rintro cD ok Y fg ⟨bL,bV,gP,y,cY,c5,c6,rfl,b8,bO,bl⟩;obtain⟨bU,aX,a4⟩:=bV.two;clear a0 ak af a8 am aJ c0 c1;exact gr
    .obtain rfl:N=cx:=ad;obtain⟨xs,d3⟩:=ag.H6;have cl:∀u∈(#[Value.slice (some ⟨du,0,none⟩) N N]:Array Value).toList,u.oneCell'=true:=λu hu=>by
      simp only[Ma] at hu;subst hu;rfl
     have aB:w.heap.size+1+1<=wr.heap.size:=by have:=ag.blk.lt;omega
     clear aF bS a1 bs ag;go_wp2_with(at_builtin;refine cy _ H4 rfl (.tmp 103) (.tmp 105) rfl (w.heap.size+1+1) _ i xs _ rfl d3 rfl rfl cl ad ad aB ?_;intro v1 aP ay aI b5;obtain⟨cG,ch,eb,eU,_⟩:=bH ay;subst eb;have be:Fr (λb=>(Value.slice S i br).ownBlock=some b) wr aP:=Mg.grown aI (λg aY=>.inl aY);have cn:=bM.2.2.2.2.blk.on be (λO=>(bM.2.2.2.2.cg _ O).1 rfl);have bg:dx wr S i br cG (i+1) ch:=(λb O=>b5.elim (λh=>.inl (h▸O)) (λh=>.inr (by rw[h] at O;injection O with O;omega)));have ca:=aA ay be bg;clear a8 am aJ ay aI b5 be bg d3 cl;obtain⟨a8,am,aJ⟩:=cn.two;clear cn);generalize hw:World.setCell _ _ _=wf;have ax:=(bM.2.2.2.2.JS ca.1 ca.2.1 ca.2.2).free;rw[hw] at ax;have bq:=bM.2.2.2.2.cl;have U:Fr (λb=>b=w.heap.size+1+1+1+1\/(Value.slice S i br).ownBlock=some b) wr wf:=(ca.2.1.mono λ_ h=>.inr h).trans (by rw[<-hw];exact(Fr.refl (λb=>b=w.heap.size+1+1+1+1\/(Value.slice S i br).ownBlock=some b) aP).setCell (.inl (.inl rfl)) _);have dG:¬(w.heap.size=w.heap.size+1+1+1+1\/(Value.slice S i br).ownBlock=some w.heap.size):=by
      rintro(h|h)
      .omega
      .have:=(bq _ h).1;omega
     have dF:¬(w.heap.size+1=w.heap.size+1+1+1+1\/(Value.slice S i br).ownBlock=some (w.heap.size+1)):=by
      rintro(h|h)
      .omega
      .have:=(bq _ h).1;omega
     have cP:Ext w wf:=bM.1.eU (U.below bM.1.size (by
      rintro k aj (h|h)
      .omega
      .have:=(bq _ h).1;omega))
     have a2:=bA cP (bM.2.1.on U dG) (bM.2.2.1.on U dF) ax;clear hw ax bq U dG dF cP bM ca a8 am aJ;go_roundw
     case rel=>exact⟨i+1,st+N,dk,m,df,cG,ch,bE,bK,bw,a6,dt,by go_num,by go_num,ad,ad,ad,ad,ad,a2.o⟩
     case measure=>exact aE
  .obtain rfl:i=n:=ad;clear aF bS ag;obtain⟨d0,aK,aO⟩:=a1.two;clear a1;go_wp2_with(fail);generalize cq:World.setCell _ _ _=Y;obtain⟨bD,bx,bJ⟩:=ef (M:=λ_=>False) [.slice IA i ic,.slice S i br,.slice cc bZ rc] (by rfl) bM.2.2.1 (w:=w) bM.1 ad cq;obtain⟨bp,aM,aV⟩:=bD.two;refine Mf (v:=.tuple #[.agg #[.slice IA i ic,.slice S i br,.slice cc bZ rc],.int .i64 0]) (by simp[results,Tryz.results57,go_sem,bp]) rfl ?_;exact⟨_,_,_,_,_,_,_,_,_,_,rfl,bx⟩
end Go.Proofs.YtflecliffjbleaaGreat

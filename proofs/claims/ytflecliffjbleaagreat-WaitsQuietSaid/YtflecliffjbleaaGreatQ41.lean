/- Part 41 of the proof. No condition of its own. -/
import Derived.Test.YtflecliffjbleaaGreatQ31
import Derived.Test.YtflecliffjbleaaGreatQ32
namespace Go.Proofs.YtflecliffjbleaaGreat
open Go.RowKit Go.Proofs.Tryz
set_option maxRecDepth 1000000
set_option maxHeartbeats 25600000
set_option linter.unusedVariables false
variable{p:Prop}
namespace Cx
theorem jU(h:p:=by
 generalize hw:World.setCell _ _ _=wf;have aU:=b0.2;rw[hw] at aU;have bN:Fr (λb=>b=w.heap.size+1+1+1+1) Z wf:=(b0.1.mono λ_ h=>h.elim).trans (by rw[<-hw];exact(Fr.refl (λb=>b=w.heap.size+1+1+1+1) hW).setCell (.inl rfl) _);have eg:¬dm=w.heap.size+1+1+1+1:=λh=>aU.kg h.symm;have aZ:=dq (bc.1.eI (bN.below bc.1.size λk ai h=>ab)) (bc.2.1.on bN ab) (bc.2.2.1.on bN ab) (bc.2.2.2.1.on bN eg) aU;clear hw aU bN eg b0 a3 am aJ;go_wp2_with(fail);go_roundw
 case rel=>exact⟨aA+1,bK,d8,bL,cO,eN,cQ,eb,eK,_,by go_num,ab,ab,ab,ef,dT.o,by simp;omega,aZ.o⟩
 case measure=>exact az
 ):p:=h
theorem gA(h:p:=by
 refine tf ?_;refine cB ?_;generalize hX:World.setCell _ _ _=X;obtain⟨bw,bq,bO⟩:=dR (M:=λ_=>False) [.int .i64 y.proc,.slice cK cR cT] (by rfl) eJ a8 gE hX;have dY:Sl X (au X) cK cR (y.aw.map .i):=(cw.ai λb O=>bO.block b O.2.1 O.2.2).mono λb O=>Lc O.2.1 bO.size;have dX:Sl X (λb=>wr.heap.size<=b/\b<X.heap.size) cK cR (y.aw.map .i):=(cw.ai λb O=>bO.block b O.2.1 O.2.2).mono λb O=>⟨O.1,Lc O.2.1 bO.size⟩
 have aR:=dq (bB.1.trans bq) (bB.2.1.aj bq) (bB.2.2.1.aj bq) (bB.2.2.2.1.aj bq) (bB.2.2.2.2.on (bq.mono λ_ h=>h.elim));have dK:=ad bw;have c8:=aL dY dX bq;clear hX bw bO bq dY dX cw eJ a8 bs a7 bS;have bU:cs[aA]?=some (cs[aA]'ab):=Array.getElem?_eq_getElem ab;have ez:=ad bU
 cases ok with
 | false=>
  obtain⟨cE,d6,d7⟩:=aR.2.2.2.1.two;go_wp2_with(fail);generalize bD:World.setCell _ _ _=Z;have bC:=dj bD;have bH:an Z dm 3 (cs.setIfInBounds aA (.int .i64 (-1))):=bD▸aR.2.2.2.1.aD aA _;have dQ:w.heap.size<=dm:=df.1;have bc:=dq (aR.1.eI (bC.below aR.1.size λk ai h=>ab)) (aR.2.1.on bC df.2.1) (aR.2.2.1.on bC df.2.2) bH (aR.2.2.2.2.on bC);clear bD bC bH cE d6 d7;go_roundw
  case rel=>exact⟨aA+1,some ⟨c7,fg,none⟩,m,cU,bM,b2,bo,bJ,di,_,by go_num,ab,ab,ab,ab,dM.o,by simp;omega,bc.o⟩
  case measure=>exact az
 | true=>
  have ep:=cc rfl;have eD:=ad ep;clear cc ep bU;obtain⟨a3,am,aJ⟩:=aR.2.2.2.2.blk.two;obtain⟨bs,a7,bS⟩:=dK.two;go_wp2_with(fail);have cX:∀z∈bJ,z.aw.length<=1000000:=λz ba=>by
   obtain⟨q,_,br,hl⟩:=aR.2.2.2.2.ok z ba;have:=(cv.procs q (Le br)).aw.2;omega
  have eA:=ad cX;clear cX;refine(qa _ m cU _ i bT bM b2 bo bJ y cK cR cT X (aR.2.2.2.2.ins.sl (λb h _=>h) (λb h _=>h)) c8.1 ab eA.o).mono ?_;rintro e b5 ⟨r,rfl,cN,cS,a4⟩;have S:=dq (aR.1.trans a4) (aR.2.1.aj a4) (aR.2.2.1.aj a4) (aR.2.2.2.1.aj a4) (aR.2.2.2.2.on (a4.mono λ_ h=>h.elim));have cg:=ad (dK.aj a4);have eT:=(c8.2.2.trans a4).size;have cm:=ah (c8.1.on (Fr.ext a4)) ((c8.2.1.ai λb O=>a4.block b O.2 λh=>h).mono λb O=>(⟨O.1,Lc O.2 a4.size⟩:wr.heap.size<=b/\b<b5.heap.size));clear aR dK c8 a4 a3 am aJ bs a7 bS cN cS;obtain⟨a3,am,aJ⟩:=S.2.2.2.2.blk.two;obtain⟨bs,a7,bS⟩:=cg.two;rcases Int.lt_or_le r 0 with aQ|aQ
  have eI:decide (r<0)=true:=by simpa using aQ
  clear aQ;have dg:=bB.2.2.2.2;have dz:=dg.blk.lt;have hD:(fv y).rep b5 (lu (λb=>b≠w.heap.size+1+1+1+1/\(Value.slice bQ i bT).ownBlock≠some b/\¬b=dm) b5 (.slice (some ⟨c7,fg,none⟩) m cU)) [.int .i64 y.proc,.slice cK cR cT]:=
   kI.2 ⟨cK,cT,cR,rfl,cF,cm.2.mono λb O=>⟨⟨by have:=O.1;omega,λh=>by have:=(dg.cl b h).2;have:=O.1;omega,λh=>by have:=dg.kl b h;have:=O.1;omega⟩,O.2,λh=>by have:=(dg.ins.lt h).2;have:=O.1;omega⟩⟩
  have dh:∀b,(Value.slice (some ⟨c7,fg,none⟩) m cU).ownBlock=some b->b<wr.heap.size:=λb O=>(dg.ins.lt O).2;obtain⟨cJ,ea⟩:=aM hD dh;have aC:w.heap.size+1+1<=b5.heap.size:=ab;clear dg dz hD dh;go_upto_region 19 with(at_builtin;refine bI Hh rfl (.tmp 77) (.tmp 79) rfl S.2.2.2.2.ins cJ.o rfl rfl rfl ab ab aC ?_;intro bK bL cx d2 cA d4 eH;have a1:=aL d2 cA d4;have a6:=S.2.2.2.2.blk.on cA (λO=>(S.2.2.2.2.ig _ O).1 rfl);clear a3 am aJ bs a7 bS d2 cA d4 eH;obtain⟨a3,am,aJ⟩:=a6.two;clear a6);have aV:=S.2.2.2.2.Ji eD.o a1.1 a1.2.1 a1.2.2;have cA:=a1.2.1;have dA:=S.2.2.2.2.ig;have bP:(bJ++[y])[i]?=some ⟨dd,db⟩:=by rw[List.getElem?_append_left (List.getElem?_eq_some_iff.1 dM.o).1];exact dM.o
  have a5:∀v,Fr (λb=>b=w.heap.size+1+1+1+1) cx (cx.setCell ⟨w.heap.size+1+1+1+1,0,none⟩ v):=λv=>(Fr.refl (λb=>b=w.heap.size+1+1+1+1) cx).setCell (.inl rfl) v;have dh:=ea.o;have cL:∀v,Fr (λb=>b=w.heap.size+1+1+1+1\/(Value.slice (some ⟨c7,fg,none⟩) m cU).ownBlock=some b) b5 (cx.setCell ⟨w.heap.size+1+1+1+1,0,none⟩ v):=λv=>(cA.mono λ_ h=>.inr h).trans ((a5 v).mono λ_ h=>.inl h);have dc:=λb (O:(Value.slice (some ⟨c7,fg,none⟩) m cU).ownBlock=some b)=>(S.2.2.2.2.ins.lt O).1;have b8:=bB.2.2.2.2.blk.lt;have bR:¬(bF=w.heap.size+1+1+1+1\/(Value.slice (some ⟨c7,fg,none⟩) m cU).ownBlock=some bF):=by
   rintro(h|h)
   .omega
   .have:=dh _ h;omega
  have dD:¬(w.heap.size=w.heap.size+1+1+1+1\/(Value.slice (some ⟨c7,fg,none⟩) m cU).ownBlock=some w.heap.size):=by
   rintro(h|h)
   .omega
   .have:=dc _ h;omega
  have dC:¬(w.heap.size+1=w.heap.size+1+1+1+1\/(Value.slice (some ⟨c7,fg,none⟩) m cU).ownBlock=some (w.heap.size+1)):=by
   rintro(h|h)
   .omega
   .have:=dc _ h;omega
  have ek:¬(dm=w.heap.size+1+1+1+1\/(Value.slice (some ⟨c7,fg,none⟩) m cU).ownBlock=some dm):=by
   rintro(h|h)
   .exact S.2.2.2.2.kg h.symm
   .exact(dA _ h).2.2 rfl
  have el:Sl (cx.setCell ⟨w.heap.size+1+1+1+1,0,none⟩ (.slice bK (m+1) bL)) (au (cx.setCell ⟨w.heap.size+1+1+1+1,0,none⟩ (.slice bK (m+1) bL))) cK cR (y.aw.map .i):=
   (cm.2.ai λb O=>(cL _).block b O.2 (by
    rintro(h|h)
    .have:=O.1;omega
    .have:=dh _ h;have:=O.1;omega)).mono λb O=>Lc O.2 (cL (.slice bK (m+1) bL)).size
  have c9:Ext w (cx.setCell ⟨w.heap.size+1+1+1+1,0,none⟩ (.slice bK (m+1) bL)):=S.1.eI ((cL _).below S.1.size (by
   rintro k ai (h|h)
   .omega
   .have:=dc _ h;omega))
  have aD:=z8 (show m+1<=st+aA+1+1 by omega) (show i<m+1 by omega) bP c9 (S.2.1.on (cL (.slice bK (m+1) bL)) dD) (S.2.2.1.on (cL (.slice bK (m+1) bL)) dC) (S.2.2.2.1.on (cL (.slice bK (m+1) bL)) ek) aV (cg.on (cL (.slice bK (m+1) bL)) bR) el;clear bP a5 dh cL dc b8 bR dD dC ek el c9 aV cA dA S cg cm a1 ea cJ a3 am aJ aC;revert aD;generalize World.setCell _ _ _=gL;generalize m+1=d8;generalize bJ++[y]=eb;intro aD
  rotate_left
  have eI:decide (r<0)=false:=by simpa using aQ
  clear aQ;go_upto_region 19 with(fail);have aD:=z8 (show m<=st+aA+1+1 by omega) (show i<m by omega) dM.o S.1 S.2.1 S.2.2.1 S.2.2.2.1 S.2.2.2.2 cg.o cm.1;clear S cg cm a3 am aJ bs a7 bS;revert aD;generalize b5=gL;generalize cU=bL;generalize m=d8;generalize bJ=eb;generalize (some ⟨c7,fg,none⟩:LP)=bK;intro aD
  rotate_left
  all_goals
   obtain⟨eY,ef,bP,c9,dO,dN,dw,aV,fn,d1⟩:=aD.o;obtain⟨a3,am,aJ⟩:=aV.blk.two;obtain⟨bs,a7,bS⟩:=fn.two;clear bP c9 dO dN dw aV fn d1;go_wp2_with(fail);have cX:∀z∈eb,z.aw.length<=1000000:=λz ba=>by
    obtain⟨q,_,br,hl⟩:=aD.2.2.2.2.2.2.2.1.ok z ba;have:=(cv.procs q (Le br)).aw.2;omega
   refine(qa bK d8 bL bQ i bT bM b2 bo eb y cK cR cT gL (aD.2.2.2.2.2.2.2.1.ins.sl (λb h _=>h) (λb h _=>h)) aD.2.2.2.2.2.2.2.2.2 ab cX).mono ?_;rintro e gR ⟨gG,rfl,b6,bv,b4⟩;clear a3 am aJ bs a7 bS cX b6 bv;obtain⟨_,_,bP,c9,dO,dN,dw,aV,fn,d1⟩:=aD.o;obtain⟨cE,d6,d7⟩:=(dw.aj b4).two;have bU:=ez.o;have cV:=ej bP (c9.trans b4) (dO.aj b4) (dN.aj b4) (dw.aj b4) (aV.on (b4.mono λ_ h=>h.elim));clear bP c9 dO dN dw aV fn d1 b4 aD;go_upto_region 20 with(fail);generalize bD:World.setCell _ _ _=Z;have bC:=dj bD;have bH:an Z dm 3 (cs.setIfInBounds aA (.int .i64 gG)):=bD▸cV.2.2.2.2.1.aD aA _;have dQ:w.heap.size<=dm:=df.1;have bn:Ext w Z:=cV.2.1.eI (bC.below cV.2.1.size λk ai h=>ab);have bc:=dq bn (cV.2.2.1.on bC df.2.1) (cV.2.2.2.1.on bC df.2.2) bH (cV.2.2.2.2.2.on bC);have dT:=ad cV.1;clear bD bC bH cE d6 d7 dQ cV bU;obtain⟨fk,bp,c,cells,eo,en,es,EA,em,ec,QA,qm,qc,e5,e7,e3,KA,ex,e0,eG,cC,hc,cl,aI⟩:=eB.Dz bf;have aY:=cl.cells;subst aY eG;have c0:=(bn.rz.1 fk (bp+aA*12+0) cC).trans (aI 0 _ rfl);simp only[Ll] at c0;clear aI cl hc bn;by_cases bl:c.op=3
   .rw[bl] at c0;clear bl;have bU:Z.cell? ⟨dm,aA,none⟩=some (.int .i64 gG):=by
     rw[bc.2.2.2.1.cell,Array.getElem?_setIfInBounds_self_of_lt ab]
    obtain⟨gr,g5,eC,_⟩:=bc.2.2.2.2.HJ.some_ bc.2.2.2.2.wU;subst eC;obtain⟨a3,am,aJ⟩:=bc.2.2.2.2.blk.two;have eR:=bc.2.2.2.1.lt;have ee:fk<Z.heap.size:=Lc cC bc.1.size;go_upto_region 21 with(fail);refine eU (λ_=>False) [(0,3),(1,0),(2,3),(3,3),(4,3),(5,0),(6,2),(7,3),(8,2)] ?_;refine pf ?_;refine ph ?_
    iterate 3 refine pf ?_
    refine ph ?_;refine aq rfl (λK hK=>?_);go_simp;refine(EB _ gr g5 b2 bo di gG Z.drew (bc.2.2.2.2.on LL.drew).HJ (λb O=>O.1) ab bc.2.2.2.2.y8 bc.2.2.2.2.wU).mono ?_;rintro e hW ⟨cO,eN,cQ,eK,rfl,ct,b6,dS,bZ,cY⟩;have dt:Ext Z hW:=Fr.aQ cY;have gm:=bc.2.2.2.2.blk.aj dt;clear a3 am aJ c0 bU;obtain⟨a3,am,aJ⟩:=gm.two;have aU:=hf.JQ (bc.2.2.2.2.on LL.drew) rfl bZ cY ct dS;have b0:=ah dt aU;clear bZ cY dt gm aU;exact l2
   .have b9:(c.op == 3)=false:=by simpa using bl
    clear bl;have ee:fk<Z.heap.size:=Lc cC bc.1.size;go_wp2_with(fail);go_roundw
    case rel=>exact⟨aA+1,bK,d8,bL,bM,b2,bo,eb,di,_,by go_num,ab,ab,ab,ef,dT.o,by simp;omega,bc.o⟩
    case measure=>exact az
 ):p:=h
end Cx
open Cx in
theorem yx(u:av)(hu:cP u)(GA:LP)(gn gc:Nat)(MA:LP)(mn mc:Nat)(PA:LP)(pn pc:Nat)(w:World)(hU:hj w (au w) u GA gn MA mn PA pn) :
  Calls prog 57 #[.agg #[.slice GA gn gc,.slice MA mn mc,.slice PA pn pc,.int .i64 u.main]] w
   λe ac=>∃(ew:LP) (n0 c0:Nat) (cy:LP) (n1 c1:Nat) (A2:LP) (n2 c2:Nat) (k:Int),e=.returned (.tuple #[.agg #[.slice ew n0 c0,.slice cy n1 c1,.slice A2 n2 c2],.int .i64 k])/\Ext w ac:=by
 have eh:u.procs.length=pn:=by rw[<-hU.p.1,Lf]
 have gI:pn<=16:=by have:=hu.GW;omega
 obtain⟨cv,dr⟩:=aM hu hU;obtain⟨mp,fW,cI,_,cf⟩:=hu.main;have dL:=ad (show mg u ⟨u.main,[]⟩ from ⟨mp,fW,cI,by simp[cf]⟩);clear hU hu fW cI cf;go_enter func57,ntmps57;go_wp2_with(fail);generalize be:World.alloc _ _=W;have aE:Ext w W:=be▸((((LL.alloc _).alloc _).alloc _).alloc _).alloc _;have ci:an W w.heap.size 26 #[.slice GA gn gc,.slice MA mn mc,.slice PA pn pc,.int .i64 u.main]:=be▸((((LM).alloc _).alloc _).alloc _).alloc _;have aW:an W (w.heap.size+1) 74 #[.slice none 0 0,.slice none 0 0,.slice none 0 0]:=be▸(((an.hY _ _ _ (by simp)).alloc _).alloc _).alloc _;have aN:hf u (w.heap.size+1+1+1+1) (w.heap.size+1+1) (λ_=>False) W (some ⟨w.heap.size+1+1,0,none⟩) 1 1 none 0 0 (some ⟨w.heap.size+1+1+1,0,none⟩) 1 1 [⟨u.main,[]⟩] [0]:=by
  have cH:an W (w.heap.size+1+1+1) 3 #[.int .i64 0]:=be▸(an.hY _ _ _ (by simp)).alloc _;have hl:=cH.lt;refine⟨by rw[<-be];exact an.hY _ _ _ (by simp),?_,?_,⟨[],⟨by simp,.inl ⟨rfl,rfl⟩⟩⟩,?_,ab,Lb _,λb O=>?_,λb O=>(by cases O),λh=>h,λ_ h=>h.elim⟩
  .have ae:=Gr.lit (P:=λb=>b≠w.heap.size+1+1+1+1/\(Value.slice none 0 0).ownBlock≠some b/\¬False) (w:=(w.alloc (.cells #[.slice GA gn gc,.slice MA mn mc,.slice PA pn pc,.int .i64 u.main] 26)).alloc (.cells #[.slice none 0 0,.slice none 0 0,.slice none 0 0] 74))
    (e:=176) (z:=2) (n:=1) (cs:=#[.int .i64 u.main,.slice none 0 0]) (l:=[fv ⟨u.main,[]⟩]) rfl rfl ab (D.bo.2 (kI.2 ⟨none,0,0,rfl,Lb _,Sl.bN _⟩))
   simp only[World.size_alloc] at ae;rw[<-be];exact ae.aj ((LL.alloc _).alloc _)
  .intro x hx;simp only[LF] at hx;subst hx;exact dL.o
  .exact Sl.nG cH (D.bo.2 (by simp only[D.rep])) ⟨hl,ab,by simp[Value.ownBlock],by simp[Value.ownBlock],λh=>h⟩ rfl
  .simp only[Value.ownBlock,LG] at O;refine⟨ab,by simp[Value.ownBlock],λh=>h⟩
 have dn:=bG aE ci aW aN;clear be aE ci aW aN dL;go_loopw [5,6] (λsv ce wr=>∃(i st:Nat) (IA:LP) (n ic:Nat) (bQ:LP) (bT:Nat) (cn:LP) (bW rc:Nat) (L:List hE) (ch:List Int),sv=.int .i64 st/\ce=.int .i64 i/\i<=256/\st<=8000/\n<=st+1/\bW<=st+1/\i<=n/\
  Ext w wr/\an wr w.heap.size 26 #[.slice GA gn gc,.slice MA mn mc,.slice PA pn pc,.int .i64 u.main]/\an wr (w.heap.size+1) 74 #[.slice none 0 0,.slice none 0 0,.slice none 0 0]/\hf u (w.heap.size+1+1+1+1) (w.heap.size+1+1) (λ_=>False) wr IA n ic bQ i bT cn bW rc L ch) (λ_ ce _=>257 - (intOf ce).toNat)
 case atStart=>exact⟨0,0,_,_,_,_,_,_,_,_,_,_,rfl,rfl,ab,ab,ab,ab,ab,dn.1,dn.2.1,dn.2.2.1,dn.2.2.2⟩
 case round=>
  obtain⟨i,st,IA,n,ic,bQ,bT,cn,bW,rc,L,ch,rfl,rfl,ak,bk,hn,dP,ax,aE,ci,aW,aN⟩:=hrel;clear dn;have bB:=bG aE ci aW aN;obtain⟨a0,ap,aj⟩:=ci.two;obtain⟨a3,am,aJ⟩:=aN.blk.two;by_cases aw:i<n
  .have f1:(0:Int)<=(i:Int):=ab;have cW:(i:Int)<(n:Int):=ab;have dx:Sl wr (au wr) IA n (L.map fv):=aN.ins.sl (λb h _=>h) (λb h _=>h);obtain⟨b,o,x,cu,cr,cD,dv,al,hx,c0,c1,aF,bX⟩:=dx.wk aw;obtain⟨p,h0,hp,aX⟩:=aN.ok x (Le hx);obtain⟨ev,db⟩:=x;simp only at h0 hp aX c0 bX;obtain⟨dd,rfl⟩:=Lg h0;rw[Lw] at hp;have s0:dd<pn:=by have:=(List.getElem?_eq_some_iff.1 hp).1;omega
   have U:(0:Int)<=(dd:Int):=ab;have dl:(dd:Int)<(pn:Int):=ab;obtain⟨pb,gN,dJ,e4,b1,eq,rfl,eM,cq,p0,ag,ey,p3,p4,cZ,dE⟩:=dr.proc s0;have p4:=(aE.rz.1 pb (gN+dd*5+4) eM).trans p4;have eM:pb<wr.heap.size:=Lc eM aE.size;obtain rfl:dJ=p:=by rw[hp] at cq;injection cq with cq;exact cq.symm
   subst dv;have f2:dJ.code.length=b1:=by rw[<-dE.1,Lf]
   have bi:b1<=201:=by
    obtain⟨s,hs,hl,_⟩:=(cv.procs dJ (Le hp)).code;have:dJ.code.length<=201:=by rw[hs];simp;omega
    omega
   have cb:=aL hp aX hx;have eB:=ad dE;clear aE ci aW aN dx hx hp aX cq bX dE p0 ag ey p3 aF c1;go_upto_region 6 with(fail);refine eU (λ_=>False) [(0,3),(1,0),(2,3),(3,0),(4,3),(5,3),(6,3),(7,0),(8,3),(9,3),(10,0),(11,3)] ?_;refine pf ?_;refine ph ?_;refine pf ?_;refine ph ?_
   iterate 3 refine pf ?_
   refine ph ?_
   iterate 2 refine pf ?_
   refine ph ?_;refine pf ?_;refine aB ?_;have cz:hf u (w.heap.size+1+1+1+1) (w.heap.size+1+1) (λ_=>False) wr.drew (some ⟨b,o,none⟩) n ic bQ i bT cn bW rc L ch:=bB.2.2.2.on LL.drew;have dV:=bB.2.2.1.drew;have dU:=bB.2.1.drew;have a2:Ext w wr.drew:=bB.1.drew;replace bB:=bG a2 dU dV cz
   clear a0 ap aj a3 am aJ c0 p4;clear a2 dU dV cz;have dy:b<wr.drew.heap.size:=al;clear eM al;revert bB dy;generalize wr.drew=wd;intro bB dy;obtain⟨d0,af,aS⟩:=bB.2.2.1.two;by_cases eO:i<256
   case neg=>
    have q1:decide ((i:Int)>=256)=true:=by simp;omega
    exact Gm
   have q1:decide ((i:Int)>=256)=false:=by simp;omega
   by_cases eE:st+b1<=8000
   case neg=>
    have cp:decide ((st:Int)+b1 > 8000)=true:=by simp;omega
    exact Gm
   have cp:decide ((st:Int)+b1 > 8000)=false:=by simp;omega
   have d3:=λW=>run_mk (P:=prog) de .i64 .i64 b1 ab ab W;clear d0 af aS;go_wp2_with(fail);clear d3;generalize hV:World.alloc _ _=V;have bm:=bb hV;have aH:=aT hV;have b3:(madeCells #[.int .i64 0] b1).size=b1:=size_madeCells _ _;have c4:=ej b3 (bB.1.trans bm) (bB.2.1.aj bm) (bB.2.2.1.aj bm) aH (bB.2.2.2.apart bm (Lb _) aH.lt);clear hV bm aH b3;generalize madeCells #[.int .i64 0] b1=e6 at c4;have df:=ad (show w.heap.size<=wd.heap.size/\¬w.heap.size=wd.heap.size/\¬w.heap.size+1=wd.heap.size by
    have:=bB.2.2.1.lt;omega)
   clear bB;generalize wd.heap.size=dm at *;have eX:=ah hn dP;go_loopw [9] (λer dH=>∃(aA:Nat) (c5:LP) (m cU:Nat) (bM:LP) (b2 bo:Nat) (bJ:List hE) (di:List Int) (cs:Array Value),er=.int .i64 aA/\aA<=b1/\m<=st+aA+1/\b2<=st+aA+1/\i<m/\bJ[i]?=some ⟨dd,db⟩/\
    cs.size=b1/\Ext w dH/\an dH w.heap.size 26 #[.slice GA gn gc,.slice MA mn mc,.slice (some ⟨pb,gN,none⟩) pn pc,.int .i64 u.main]/\an dH (w.heap.size+1) 74 #[.slice none 0 0,.slice none 0 0,.slice none 0 0]/\
    an dH dm 3 cs/\hf u (w.heap.size+1+1+1+1) (w.heap.size+1+1) (λb=>b=dm) dH c5 m cU bQ i bT bM b2 bo bJ di) (λer _=>b1 - (intOf er).toNat)
   case atStart=>exact⟨0,_,_,_,_,_,_,_,_,_,rfl,ab,ab,ab,aw,cb.2.2,c4.o⟩
   case round=>
    obtain⟨aA,c5,m,cU,bM,b2,bo,bJ,di,cs,rfl,dk,hm,ck,dB,dZ,T,aE,ci,aW,aH,aN⟩:=hrel;clear c4;have bB:=dq aE ci aW aH aN;obtain⟨a0,ap,aj⟩:=ci.two;obtain⟨a3,am,aJ⟩:=aN.blk.two;by_cases bf:aA<b1
    .have eV:(aA:Int)<(b1:Int):=ab;have eS:(i:Int)<(m:Int):=ab;have dx:Sl wr (au wr) c5 m (bJ.map fv):=aN.ins.sl (λb h _=>h) (λb h _=>h);obtain⟨c7,fg,bu,ed,eu,et,eF,eP,bd,c0,c1,eW,dF⟩:=dx.wk dB;obtain rfl:bu=⟨dd,db⟩:=by rw[dZ] at bd;injection bd with bd;exact bd.symm
     subst eF;simp only at c0 dF;obtain⟨c6,dM⟩:=aM dF dZ;clear dF bd dx aE ci aW aH aN dZ;go_upto_region 14 with(fail);refine uP (λ_=>False) [12] (.held 0 (.free 1 (.held 2 (.free 3 (.free 4 (.held 5 (.free 6 (.pick [7,11] (λi=>bif i == 7 then .free 8 (.free 9 (.free 10 (.pick [11] (λ_=>.pick [12] (λ_=>.free 13 (.stop)))))) else .pick [7] (λ_=>.free 8 (.free 9 (.free 10 (.pick [12] (λ_=>.free 13 (.stop))))))))))))))) ?_;refine th ?_;refine tf ?_;refine th ?_
     iterate 2 refine tf ?_
     refine th ?_;refine tf ?_;have eZ:∀k,k<wr.heap.size->k<wr.drew.heap.size:=λ_ h=>h;refine iK (P:=?pw) (ops:=?H2) (Q:=?H4) (R:=?H6) (tails:=?H9) (rest:=.pick [12] (λ_=>.free 13 (.stop))) (aa:=?H0)
      (C:=λ(bF:Nat) (ok:Bool) (Y:Value) dG=>Ext wr dG/\an dG bF 176 #[.int .i64 0,.slice none 0 0]/\wr.heap.size<=bF/\∃(y:hE) (cK:LP) (cR cT:Nat),Y=.agg #[.int .i64 y.proc,.slice cK cR cT]/\(ok=true->mg u y)/\cR<=cT/\Sl dG (λb=>wr.heap.size<=b/\b<dG.heap.size/\b≠bF) cK cR (y.aw.map .i)) (λkey=>?yV) ?yO
     case yV=>
      refine bt ?_ ?_
      ·
       refine aG rfl (λK hK=>?_) rfl;go_simp;refine(pP u cv.o GA gn gc MA mn mc (some ⟨pb,gN,none⟩) pn pc ⟨dd,db⟩ ed eu et dJ U cb.1 cb.2.1 aA ab wr.drew (dr.on bB.1.drew) (c6.on (Fr.ext LL.drew))).mono ?_;rintro e aP ⟨ok,y,cK,cR,cT,rfl,cc,cF,cw,ar⟩;refine ei hK (ar) ?_;clear hK K
       iterate 3 refine tf ?_
       refine ao ?_;refine fj ?_;generalize bD:World.alloc _ _=Z;have e2:=bb bD;have b6:wr.heap.size<=aP.heap.size:=ar.size;have F:Ext wr Z/\an Z aP.heap.size 176 #[.int .i64 0,.slice none 0 0]/\wr.heap.size<=aP.heap.size/\∃(d9:hE) (ds:LP) (da dI:Nat),(Value.agg #[.int .i64 y.proc,.slice cK cR cT])=.agg #[.int .i64 d9.proc,.slice ds da dI]/\(ok=true->mg u d9)/\da<=dI/\Sl Z (λb=>wr.heap.size<=b/\b<Z.heap.size/\b≠aP.heap.size) ds da (d9.aw.map .i):=
        ⟨(Fr.aQ ar).trans e2,by rw[<-bD];exact LM,b6,y,cK,cR,cT,rfl,cc,cF,(cw.ai λb O=>e2.block b O.2 λh=>h).mono λb O=>⟨O.1,Lc O.2 e2.size,by have:=O.2;omega⟩⟩
       clear bD e2 b6 ar cw cc cF;revert F;generalize aP.heap.size=bF;generalize (Value.agg #[.int .i64 y.proc,.slice cK cR cT])=Y;intro F;exact key bF ok Y _ F
      ·
       refine fj ?_;generalize hV:World.drew (World.alloc _ _)=c3;have e1:=gX hV;have ca:=lN hV;have b6:=ca.lt;refine ao ?_;refine aG rfl (λK hK=>?_) rfl;go_simp;refine(pP u cv.o GA gn gc MA mn mc (some ⟨pb,gN,none⟩) pn pc ⟨dd,db⟩ ed eu et dJ U cb.1 cb.2.1 aA ab c3 (dr.on (bB.1.trans e1)) (c6.on (Fr.ext e1))).mono ?_;rintro e aP ⟨ok,y,cK,cR,cT,rfl,cc,cF,cw,ar⟩;refine ei hK (ar) ?_;clear hK K
       iterate 3 refine tf ?_
       have F:Ext wr aP/\an aP wr.heap.size 176 #[.int .i64 0,.slice none 0 0]/\wr.heap.size<=wr.heap.size/\∃(d9:hE) (ds:LP) (da dI:Nat),(Value.agg #[.int .i64 y.proc,.slice cK cR cT])=.agg #[.int .i64 d9.proc,.slice ds da dI]/\(ok=true->mg u d9)/\da<=dI/\Sl aP (λb=>wr.heap.size<=b/\b<aP.heap.size/\b≠wr.heap.size) ds da (d9.aw.map .i):=
        ⟨e1.trans ar,ca.aj ar,Lb _,y,cK,cR,cT,rfl,cc,cF,cw.mono λb O=>⟨by have:=O.1;omega,O.2,by have:=O.1;omega⟩⟩
       clear hV e1 ca b6 ar cw cc cF;revert F key;generalize (Value.agg #[.int .i64 y.proc,.slice cK cR cT])=Y;intro key F;exact key wr.heap.size ok Y _ F
     case yO=>
      rintro bF ok Y dG ⟨a8,eJ,gE,y,cK,cR,cT,rfl,cc,cF,cw⟩;obtain⟨bs,a7,bS⟩:=eJ.two;clear a0 ap aj a3 am aJ c0 c1;exact hk
    .obtain rfl:aA=b1:=ab;obtain⟨xs,dW⟩:=aN.Hn;have co:∀u∈(#[Value.slice (some ⟨dm,0,none⟩) aA aA]:Array Value).toList,u.oneCell'=true:=λu hu=>by
      simp only[LF] at hu;subst hu;rfl
     have aC:w.heap.size+1+1<=wr.heap.size:=by have:=aN.blk.lt;omega
     clear aE ci aW aH aN;go_wp2_with(at_builtin;refine bV _ Hl rfl (.tmp 103) (.tmp 105) rfl (w.heap.size+1+1) _ i xs _ rfl dW rfl rfl co ab ab aC ?_;intro v1 aP ay aO cd;obtain⟨cM,cG,d5,eQ,_⟩:=bx ay;subst d5;have N:Fr (λb=>(Value.slice bQ i bT).ownBlock=some b) wr aP:=LL.grown aO (λg aK=>.inl aK);have ca:=bB.2.2.2.2.blk.on N (λO=>(bB.2.2.2.2.cg _ O).1 rfl);have a9:dp wr bQ i bT cM (i+1) cG:=(λb O=>cd.elim (λh=>.inl (h▸O)) (λh=>.inr (by rw[h] at O;injection O with O;omega)));have bY:=aL ay N a9;clear a3 am aJ ay aO cd N a9 dW co;obtain⟨a3,am,aJ⟩:=ca.two;clear ca);generalize hw:World.setCell _ _ _=wf;have aU:=(bB.2.2.2.2.Jh bY.1 bY.2.1 bY.2.2).free;rw[hw] at aU;have bi:=bB.2.2.2.2.cl;have bN:Fr (λb=>b=w.heap.size+1+1+1+1\/(Value.slice bQ i bT).ownBlock=some b) wr wf:=(bY.2.1.mono λ_ h=>.inr h).trans (by rw[<-hw];exact(Fr.refl (λb=>b=w.heap.size+1+1+1+1\/(Value.slice bQ i bT).ownBlock=some b) aP).setCell (.inl (.inl rfl)) _);have dD:¬(w.heap.size=w.heap.size+1+1+1+1\/(Value.slice bQ i bT).ownBlock=some w.heap.size):=by
      rintro(h|h)
      .omega
      .have:=(bi _ h).1;omega
     have dC:¬(w.heap.size+1=w.heap.size+1+1+1+1\/(Value.slice bQ i bT).ownBlock=some (w.heap.size+1)):=by
      rintro(h|h)
      .omega
      .have:=(bi _ h).1;omega
     have du:Ext w wf:=bB.1.eI (bN.below bB.1.size (by
      rintro k ai (h|h)
      .omega
      .have:=(bi _ h).1;omega))
     have aZ:=bG du (bB.2.1.on bN dD) (bB.2.2.1.on bN dC) aU;clear hw aU bi bN dD dC du bB bY a3 am aJ;go_roundw
     case rel=>exact⟨i+1,st+aA,c5,m,cU,cM,cG,bM,b2,bo,bJ,di,by go_num,by go_num,ab,ab,ab,ab,ab,aZ.o⟩
     case measure=>exact az
  .obtain rfl:i=n:=ab;clear aE ci aN;obtain⟨d0,af,aS⟩:=aW.two;clear aW;go_wp2_with(fail);generalize b7:World.setCell _ _ _=Y;obtain⟨bz,bA,bj⟩:=dR (M:=λ_=>False) [.slice IA i ic,.slice bQ i bT,.slice cn bW rc] (by rfl) bB.2.2.1 (w:=w) bB.1 ab b7;obtain⟨bE,bg,bh⟩:=bz.two;refine LK (v:=.tuple #[.agg #[.slice IA i ic,.slice bQ i bT,.slice cn bW rc],.int .i64 0]) (by simp[results,Tryz.results57,go_sem,bE]) rfl ?_;exact⟨_,_,_,_,_,_,_,_,_,_,rfl,bA⟩
end Go.Proofs.YtflecliffjbleaaGreat

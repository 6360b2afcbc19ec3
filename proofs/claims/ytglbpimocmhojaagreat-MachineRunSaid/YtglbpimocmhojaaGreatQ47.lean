/- Part 47 of the proof. No condition of its own. -/
import Derived.Test.YtglbpimocmhojaaGreatQ38
import Derived.Test.YtglbpimocmhojaaGreatQ39
namespace Go.Proofs.YtglbpimocmhojaaGreat
open Go.RowKit Go.Proofs.Tryz
set_option maxRecDepth 1000000
set_option maxHeartbeats 25600000
set_option linter.unusedVariables false
variable{p:Prop}
namespace CD
theorem dB(h:p:=by
 generalize hw:World.setCell _ _ _=wf;have aj:=bT.2;rw[hw] at aj;have ag:Fr (λb=>b=w.heap.size+1+1+1+1) Z wf:=(bT.1.mono λ_ h=>h.elim).trans (by rw[<-hw];exact(Fr.refl (λb=>b=w.heap.size+1+1+1+1) hY).setCell (.inl rfl) _);have ew:¬dj=w.heap.size+1+1+1+1:=λh=>aj.kg h.symm;have aW:=cK (bf.1.eN (ag.below bf.1.size λk ap h=>ad)) (bf.2.1.on ag ad) (bf.2.2.1.on ag ad) (bf.2.2.2.1.on ag ew) aj;clear hw aj ag ew bT a8 am aF;go_wp2_with(fail);go_roundw
 case rel=>exact⟨aP+1,aU,el,bw,cM,eW,cT,er,eV,_,by go_num,ad,ad,ad,ev,d6.o,by simp;omega,aW.o⟩
 case measure=>exact aG
 ):p:=h
theorem eQ(h:p:=by
 refine tf ?_;refine b3 ?_;generalize hX:World.setCell _ _ _=X;obtain⟨bz,bp,b5⟩:=dU (M:=λ_=>False) [.int .i64 y.proc,.slice cX da db] (by rfl) bF cB gr hX;have eb:Sl X (av X) cX da (y.au.map .i):=(cR.ak λb O=>b5.block b O.2.1 O.2.2).mono λb O=>KE O.2.1 b5.size;have ea:Sl X (λb=>wr.heap.size<=b/\b<X.heap.size) cX da (y.au.map .i):=(cR.ak λb O=>b5.block b O.2.1 O.2.2).mono λb O=>⟨O.1,KE O.2.1 b5.size⟩
 have aQ:=cK (bo.1.trans bp) (bo.2.1.ai bp) (bo.2.2.1.ai bp) (bo.2.2.2.1.ai bp) (bo.2.2.2.2.on (bp.mono λ_ h=>h.elim));have dX:=ae bz;have df:=aD eb ea bp;clear hX bz b5 bp eb ea cR bF cB bs aV bu;have bX:cs[aP]?=some (cs[aP]'ad):=Array.getElem?_eq_getElem ad;have eH:=ae bX
 cases ok with
 | false=>
  obtain⟨dh,ej,ek⟩:=aQ.2.2.2.1.two;go_wp2_with(fail);generalize bI:World.setCell _ _ _=Z;have bd:=cJ bI;have bh:aq Z dj 3 (cs.setIfInBounds aP (.int .i64 (-1))):=bI▸aQ.2.2.2.1.aM aP _;have d2:w.heap.size<=dj:=du.1;have bf:=cK (aQ.1.eN (bd.below aQ.1.size λk ap h=>ad)) (aQ.2.1.on bd du.2.1) (aQ.2.2.1.on bd du.2.2) bh (aQ.2.2.2.2.on bd);clear bI bd bh dh ej ek;go_roundw
  case rel=>exact⟨aP+1,some ⟨di,fg,none⟩,m,c9,bR,bV,bC,a6,dx,_,by go_num,ad,ad,ad,ad,dY.o,by simp;omega,bf.o⟩
  case measure=>exact aG
 | true=>
  have eA:=bY rfl;have eJ:=ae eA;clear bY eA bX;obtain⟨a8,am,aF⟩:=aQ.2.2.2.2.blk.two;obtain⟨bs,aV,bu⟩:=dX.two;go_wp2_with(fail);have co:∀z∈a6,z.au.length<=1000000:=λz bt=>by
   obtain⟨q,_,bv,hl⟩:=aQ.2.2.2.2.ok z bt;have:=(cz.procs q (KG bv)).au.2;omega
  have eI:=ae co;clear co;refine(pJ _ m c9 _ i bK bR bV bC a6 y cX da db X (aQ.2.2.2.2.ins.sl (λb h _=>h) (λb h _=>h)) df.1 ad eI.o).mono ?_;rintro e c7 ⟨r,rfl,cV,c4,b0⟩;have aR:=cK (aQ.1.trans b0) (aQ.2.1.ai b0) (aQ.2.2.1.ai b0) (aQ.2.2.2.1.ai b0) (aQ.2.2.2.2.on (b0.mono λ_ h=>h.elim));have cl:=ae (dX.ai b0);have e5:=(df.2.2.trans b0).size;have cr:=ah (df.1.on (Fr.ext b0)) ((df.2.1.ak λb O=>b0.block b O.2 λh=>h).mono λb O=>(⟨O.1,KE O.2 b0.size⟩:wr.heap.size<=b/\b<c7.heap.size));clear aQ dX df b0 a8 am aF bs aV bu cV c4;obtain⟨a8,am,aF⟩:=aR.2.2.2.2.blk.two;obtain⟨bs,aV,bu⟩:=cl.two;rcases Int.lt_or_le r 0 with a5|a5
  have eT:decide (r<0)=true:=by simpa using a5
  clear a5;have dv:=bo.2.2.2.2;have cO:=dv.blk.lt;have hD:(fB y).rep c7 (lu (λb=>b≠w.heap.size+1+1+1+1/\(Value.slice bx i bK).ownBlock≠some b/\¬b=dj) c7 (.slice (some ⟨di,fg,none⟩) m c9)) [.int .i64 y.proc,.slice cX da db]:=
   kv.2 ⟨cX,db,da,rfl,dc,cr.2.mono λb O=>⟨⟨by have:=O.1;omega,λh=>by have:=(dv.cl b h).2;have:=O.1;omega,λh=>by have:=dv.kl b h;have:=O.1;omega⟩,O.2,λh=>by have:=(dv.ins.lt h).2;have:=O.1;omega⟩⟩
  have dw:∀b,(Value.slice (some ⟨di,fg,none⟩) m c9).ownBlock=some b->b<wr.heap.size:=λb O=>(dv.ins.lt O).2;obtain⟨cw,eq⟩:=aH hD dw;have S:w.heap.size+1+1<=c7.heap.size:=ad;clear dv cO hD dw;go_upto_region 19 with(at_builtin;refine bP G6 rfl (.tmp 77) (.tmp 79) rfl aR.2.2.2.2.ins cw.o rfl rfl rfl ad ad S ?_;intro aU bw cU ef cW eg eS;have al:=aD ef cW eg;have cD:=aR.2.2.2.2.blk.on cW (λO=>(aR.2.2.2.2.ig _ O).1 rfl);clear a8 am aF bs aV bu ef cW eg eS;obtain⟨a8,am,aF⟩:=cD.two;clear cD);have au:=aR.2.2.2.2.IX eJ.o al.1 al.2.1 al.2.2;have cW:=al.2.1;have dH:=aR.2.2.2.2.ig;have bO:(a6++[y])[i]?=some ⟨dt,dn⟩:=by rw[List.getElem?_append_left (List.getElem?_eq_some_iff.1 dY.o).1];exact dY.o
  have bW:∀v,Fr (λb=>b=w.heap.size+1+1+1+1) cU (cU.setCell ⟨w.heap.size+1+1+1+1,0,none⟩ v):=λv=>(Fr.refl (λb=>b=w.heap.size+1+1+1+1) cU).setCell (.inl rfl) v;have dw:=eq.o;have cL:∀v,Fr (λb=>b=w.heap.size+1+1+1+1\/(Value.slice (some ⟨di,fg,none⟩) m c9).ownBlock=some b) c7 (cU.setCell ⟨w.heap.size+1+1+1+1,0,none⟩ v):=λv=>(cW.mono λ_ h=>.inr h).trans ((bW v).mono λ_ h=>.inl h);have ds:=λb (O:(Value.slice (some ⟨di,fg,none⟩) m c9).ownBlock=some b)=>(aR.2.2.2.2.ins.lt O).1;have ck:=bo.2.2.2.2.blk.lt;have ci:¬(az=w.heap.size+1+1+1+1\/(Value.slice (some ⟨di,fg,none⟩) m c9).ownBlock=some az):=by
   rintro(h|h)
   .omega
   .have:=dw _ h;omega
  have dK:¬(w.heap.size=w.heap.size+1+1+1+1\/(Value.slice (some ⟨di,fg,none⟩) m c9).ownBlock=some w.heap.size):=by
   rintro(h|h)
   .omega
   .have:=ds _ h;omega
  have dJ:¬(w.heap.size+1=w.heap.size+1+1+1+1\/(Value.slice (some ⟨di,fg,none⟩) m c9).ownBlock=some (w.heap.size+1)):=by
   rintro(h|h)
   .omega
   .have:=ds _ h;omega
  have ey:¬(dj=w.heap.size+1+1+1+1\/(Value.slice (some ⟨di,fg,none⟩) m c9).ownBlock=some dj):=by
   rintro(h|h)
   .exact aR.2.2.2.2.kg h.symm
   .exact(dH _ h).2.2 rfl
  have ez:Sl (cU.setCell ⟨w.heap.size+1+1+1+1,0,none⟩ (.slice aU (m+1) bw)) (av (cU.setCell ⟨w.heap.size+1+1+1+1,0,none⟩ (.slice aU (m+1) bw))) cX da (y.au.map .i):=
   (cr.2.ak λb O=>(cL _).block b O.2 (by
    rintro(h|h)
    .have:=O.1;omega
    .have:=dw _ h;have:=O.1;omega)).mono λb O=>KE O.2 (cL (.slice aU (m+1) bw)).size
  have bJ:Ext w (cU.setCell ⟨w.heap.size+1+1+1+1,0,none⟩ (.slice aU (m+1) bw)):=aR.1.eN ((cL _).below aR.1.size (by
   rintro k ap (h|h)
   .omega
   .have:=ds _ h;omega))
  have aT:=zA (show m+1<=st+aP+1+1 by omega) (show i<m+1 by omega) bO bJ (aR.2.1.on (cL (.slice aU (m+1) bw)) dK) (aR.2.2.1.on (cL (.slice aU (m+1) bw)) dJ) (aR.2.2.2.1.on (cL (.slice aU (m+1) bw)) ey) au (cl.on (cL (.slice aU (m+1) bw)) ci) ez;clear bO bW dw cL ds ck ci dK dJ ey ez bJ au cW dH aR cl cr al eq cw a8 am aF S;revert aT;generalize World.setCell _ _ _=gS;generalize m+1=el;generalize a6++[y]=er;intro aT
  rotate_left
  have eT:decide (r<0)=false:=by simpa using a5
  clear a5;go_upto_region 19 with(fail);have aT:=zA (show m<=st+aP+1+1 by omega) (show i<m by omega) dY.o aR.1 aR.2.1 aR.2.2.1 aR.2.2.2.1 aR.2.2.2.2 cl.o cr.1;clear aR cl cr a8 am aF bs aV bu;revert aT;generalize c7=gS;generalize c9=bw;generalize m=el;generalize a6=er;generalize (some ⟨di,fg,none⟩:Lp)=aU;intro aT
  rotate_left
  all_goals
   obtain⟨e9,ev,bO,bJ,d1,dZ,dF,au,bq,ee⟩:=aT.o;obtain⟨a8,am,aF⟩:=au.blk.two;obtain⟨bs,aV,bu⟩:=bq.two;clear bO bJ d1 dZ dF au bq ee;go_wp2_with(fail);have co:∀z∈er,z.au.length<=1000000:=λz bt=>by
    obtain⟨q,_,bv,hl⟩:=aT.2.2.2.2.2.2.2.1.ok z bt;have:=(cz.procs q (KG bv)).au.2;omega
   refine(pJ aU el bw bx i bK bR bV bC er y cX da db gS (aT.2.2.2.2.2.2.2.1.ins.sl (λb h _=>h) (λb h _=>h)) aT.2.2.2.2.2.2.2.2.2 ad co).mono ?_;rintro e hf ⟨dL,rfl,cp,bN,cq⟩;clear a8 am aF bs aV bu co cp bN;obtain⟨_,_,bO,bJ,d1,dZ,dF,au,bq,ee⟩:=aT.o;obtain⟨dh,ej,ek⟩:=(dF.ai cq).two;have bX:=eH.o;have b7:=cS bO (bJ.trans cq) (d1.ai cq) (dZ.ai cq) (dF.ai cq) (au.on (cq.mono λ_ h=>h.elim));clear bO bJ d1 dZ dF au bq ee cq aT;go_upto_region 20 with(fail);generalize bI:World.setCell _ _ _=Z;have bd:=cJ bI;have bh:aq Z dj 3 (cs.setIfInBounds aP (.int .i64 dL)):=bI▸b7.2.2.2.2.1.aM aP _;have d2:w.heap.size<=dj:=du.1;have a9:Ext w Z:=b7.2.1.eN (bd.below b7.2.1.size λk ap h=>ad);have bf:=cK a9 (b7.2.2.1.on bd du.2.1) (b7.2.2.2.1.on bd du.2.2) bh (b7.2.2.2.2.2.on bd);have d6:=ae b7.1;clear bI bd bh dh ej ek d2 b7 bX;obtain⟨bc,b6,c,cells,eo,en,es,EA,em,ec,QA,qm,qc,fe,fh,fc,KA,eG,fb,eR,cv,hc,bZ,a4⟩:=dA.DE bk;have aZ:=bZ.cells;subst aZ eR;have c0:=(a9.s6.1 bc (b6+aP*12+0) cv).trans (a4 0 _ rfl);simp only[KN] at c0;clear a4 bZ hc a9;by_cases bn:c.op=3
   .rw[bn] at c0;clear bn;have bX:Z.cell? ⟨dj,aP,none⟩=some (.int .i64 dL):=by
     rw[bf.2.2.2.1.cell,Array.getElem?_setIfInBounds_self_of_lt ad]
    obtain⟨gt,g5,eL,_⟩:=bf.2.2.2.2.Hw.some_ bf.2.2.2.2.wu;subst eL;obtain⟨a8,am,aF⟩:=bf.2.2.2.2.blk.two;have e3:=bf.2.2.2.1.lt;have eu:bc<Z.heap.size:=KE cv bf.1.size;go_upto_region 21 with(fail);refine eK (λ_=>False) [(0,3),(1,0),(2,3),(3,3),(4,3),(5,0),(6,2),(7,3),(8,2)] ?_;refine pf ?_;refine ph ?_
    iterate 3 refine pf ?_
    refine ph ?_;refine ax rfl (λK hK=>?_);go_simp;refine(Ew _ gt g5 bV bC dx dL Z.drew (bf.2.2.2.2.on Ll.drew).Hw (λb O=>O.1) ad bf.2.2.2.2.yz bf.2.2.2.2.wu).mono ?_;rintro e hY ⟨cM,eW,cT,eV,rfl,aC,cp,d5,cf,cN⟩;have dE:Ext Z hY:=Fr.aF cN;have gq:=bf.2.2.2.2.blk.ai dE;clear a8 am aF c0 bX;obtain⟨a8,am,aF⟩:=gq.two;have aj:=hi.Jv (bf.2.2.2.2.on Ll.drew) rfl cf cN aC d5;have bT:=ah dE aj;clear cf cN dE gq aj;exact sq
   .have cg:(c.op == 3)=false:=by simpa using bn
    clear bn;have eu:bc<Z.heap.size:=KE cv bf.1.size;go_wp2_with(fail);go_roundw
    case rel=>exact⟨aP+1,aU,el,bw,bR,bV,bC,er,dx,_,by go_num,ad,ad,ad,ev,d6.o,by simp;omega,bf.o⟩
    case measure=>exact aG
 ):p:=h
end CD
open CD in
theorem x4(u:ay)(hu:cZ u)(GA:Lp)(gn gc:Nat)(MA:Lp)(mn mc:Nat)(PA:Lp)(pn pc:Nat)(w:World)(hU:hq w (av w) u GA gn MA mn PA pn) :
  Calls prog 23 #[.agg #[.slice GA gn gc,.slice MA mn mc,.slice PA pn pc,.int .i64 u.main]] w
   λe ab=>∃(eF:Lp) (n0 c0:Nat) (bU:Lp) (n1 c1:Nat) (A2:Lp) (n2 c2:Nat) (k:Int),e=.returned (.tuple #[.agg #[.slice eF n0 c0,.slice bU n1 c1,.slice A2 n2 c2],.int .i64 k])/\Ext w ab:=by
 have ex:u.procs.length=pn:=by rw[<-hU.p.1,KH]
 have gs:pn<=16:=by have:=hu.DT;omega
 obtain⟨cz,dC⟩:=aH hu hU;obtain⟨mp,bB,a1,_,ce⟩:=hu.main;have cQ:=ae (show lV u ⟨u.main,[]⟩ from ⟨mp,bB,a1,by simp[ce]⟩);clear hU hu bB a1 ce;go_enter func23,ntmps23;go_wp2_with(fail);generalize ba:World.alloc _ _=W;have aw:Ext w W:=ba▸((((Ll.alloc _).alloc _).alloc _).alloc _).alloc _;have cb:aq W w.heap.size 30 #[.slice GA gn gc,.slice MA mn mc,.slice PA pn pc,.int .i64 u.main]:=ba▸((((Lm).alloc _).alloc _).alloc _).alloc _;have bg:aq W (w.heap.size+1) 34 #[.slice none 0 0,.slice none 0 0,.slice none 0 0]:=ba▸(((aq.gz _ _ _ (by simp)).alloc _).alloc _).alloc _;have N:hi u (w.heap.size+1+1+1+1) (w.heap.size+1+1) (λ_=>False) W (some ⟨w.heap.size+1+1,0,none⟩) 1 1 none 0 0 (some ⟨w.heap.size+1+1+1,0,none⟩) 1 1 [⟨u.main,[]⟩] [0]:=by
  have b9:aq W (w.heap.size+1+1+1) 3 #[.int .i64 0]:=ba▸(aq.gz _ _ _ (by simp)).alloc _;have hl:=b9.lt;refine⟨by rw[<-ba];exact aq.gz _ _ _ (by simp),?_,?_,⟨[],⟨by simp,.inl ⟨rfl,rfl⟩⟩⟩,?_,ad,KD _,λb O=>?_,λb O=>(by cases O),λh=>h,λ_ h=>h.elim⟩
  .have ac:=Gr.lit (P:=λb=>b≠w.heap.size+1+1+1+1/\(Value.slice none 0 0).ownBlock≠some b/\¬False) (w:=(w.alloc (.cells #[.slice GA gn gc,.slice MA mn mc,.slice PA pn pc,.int .i64 u.main] 30)).alloc (.cells #[.slice none 0 0,.slice none 0 0,.slice none 0 0] 34))
    (e:=151) (z:=2) (n:=1) (cs:=#[.int .i64 u.main,.slice none 0 0]) (l:=[fB ⟨u.main,[]⟩]) rfl rfl ad (D.bj.2 (kv.2 ⟨none,0,0,rfl,KD _,Sl.bN _⟩))
   simp only[World.size_alloc] at ac;rw[<-ba];exact ac.ai ((Ll.alloc _).alloc _)
  .intro x hx;simp only[Lf] at hx;subst hx;exact cQ.o
  .exact Sl.sQ b9 (D.bj.2 (by simp only[D.rep])) ⟨hl,ad,by simp[Value.ownBlock],by simp[Value.ownBlock],λh=>h⟩ rfl
  .simp only[Value.ownBlock,Lg] at O;refine⟨ad,by simp[Value.ownBlock],λh=>h⟩
 have dy:=bL aw cb bg N;clear ba aw cb bg N cQ;go_loopw [5,6] (λsv cu wr=>∃(i st:Nat) (IA:Lp) (n ic:Nat) (bx:Lp) (bK:Nat) (cc:Lp) (bD rc:Nat) (L:List hO) (cd:List Int),sv=.int .i64 st/\cu=.int .i64 i/\i<=256/\st<=8000/\n<=st+1/\bD<=st+1/\i<=n/\
  Ext w wr/\aq wr w.heap.size 30 #[.slice GA gn gc,.slice MA mn mc,.slice PA pn pc,.int .i64 u.main]/\aq wr (w.heap.size+1) 34 #[.slice none 0 0,.slice none 0 0,.slice none 0 0]/\hi u (w.heap.size+1+1+1+1) (w.heap.size+1+1) (λ_=>False) wr IA n ic bx i bK cc bD rc L cd) (λ_ cu _=>257 - (intOf cu).toNat)
 case atStart=>exact⟨0,0,_,_,_,_,_,_,_,_,_,_,rfl,rfl,ad,ad,ad,ad,ad,dy.1,dy.2.1,dy.2.2.1,dy.2.2.2⟩
 case round=>
  obtain⟨i,st,IA,n,ic,bx,bK,cc,bD,rc,L,cd,rfl,rfl,an,cy,hn,d4,aI,aw,cb,bg,N⟩:=hrel;clear dy;have bo:=bL aw cb bg N;obtain⟨a0,ai,af⟩:=cb.two;obtain⟨a8,am,aF⟩:=N.blk.two;by_cases ak:i<n
  .have f1:(0:Int)<=(i:Int):=ad;have cY:(i:Int)<(n:Int):=ad;have dG:Sl wr (av wr) IA n (L.map fB):=N.ins.sl (λb h _=>h) (λb h _=>h);obtain⟨b,o,x,cA,cj,cF,dl,U,hx,c0,c1,aN,ca⟩:=dG.vP ak;obtain⟨p,h0,hp,cm⟩:=N.ok x (KG hx);obtain⟨eE,dn⟩:=x;simp only at h0 hp cm c0 ca;obtain⟨dt,rfl⟩:=KI h0;rw[KY] at hp;have yN:dt<pn:=by have:=(List.getElem?_eq_some_iff.1 hp).1;omega
   have ei:(0:Int)<=(dt:Int):=ad;have dQ:(dt:Int)<(pn:Int):=ad;obtain⟨pb,eX,dW,fd,b2,eB,rfl,dN,cP,p0,be,dS,p3,p4,dd,dM⟩:=dC.proc yN;have p4:=(aw.s6.1 pb (eX+dt*5+4) dN).trans p4;have dN:pb<wr.heap.size:=KE dN aw.size;obtain rfl:dW=p:=by rw[hp] at cP;injection cP with cP;exact cP.symm
   subst dl;have f2:dW.code.length=b2:=by rw[<-dM.1,KH]
   have bj:b2<=201:=by
    obtain⟨s,hs,hl,_⟩:=(cz.procs dW (KG hp)).code;have:dW.code.length<=201:=by rw[hs];simp;omega
    omega
   have cn:=aD hp cm hx;have dA:=ae dM;clear aw cb bg N dG hx hp cm cP ca dM p0 be dS p3 aN c1;go_upto_region 6 with(fail);refine eK (λ_=>False) [(0,3),(1,0),(2,3),(3,0),(4,3),(5,3),(6,3),(7,0),(8,3),(9,3),(10,0),(11,3)] ?_;refine pf ?_;refine ph ?_;refine pf ?_;refine ph ?_
   iterate 3 refine pf ?_
   refine ph ?_
   iterate 2 refine pf ?_
   refine ph ?_;refine pf ?_;refine aE ?_;have cG:hi u (w.heap.size+1+1+1+1) (w.heap.size+1+1) (λ_=>False) wr.drew (some ⟨b,o,none⟩) n ic bx i bK cc bD rc L cd:=bo.2.2.2.on Ll.drew;have d8:=bo.2.2.1.drew;have d7:=bo.2.1.drew;have a3:Ext w wr.drew:=bo.1.drew;replace bo:=bL a3 d7 d8 cG
   clear a0 ai af a8 am aF c0 p4;clear a3 d7 d8 cG;have dm:b<wr.drew.heap.size:=U;clear dN U;revert bo dm;generalize wr.drew=wd;intro bo dm;obtain⟨d0,aL,aM⟩:=bo.2.2.1.two;by_cases eY:i<256
   case neg=>
    have q1:decide ((i:Int)>=256)=true:=by simp;omega
    exact Ge
   have q1:decide ((i:Int)>=256)=false:=by simp;omega
   by_cases eM:st+b2<=8000
   case neg=>
    have cI:decide ((st:Int)+b2 > 8000)=true:=by simp;omega
    exact Ge
   have cI:decide ((st:Int)+b2 > 8000)=false:=by simp;omega
   have d3:=λW=>run_mk (P:=prog) de .i64 .i64 b2 ad ad W;clear d0 aL aM;go_wp2_with(fail);clear d3;generalize hV:World.alloc _ _=V;have bm:=aX hV;have br:=aK hV;have b8:(madeCells #[.int .i64 0] b2).size=b2:=size_madeCells _ _;have c5:=cS b8 (bo.1.trans bm) (bo.2.1.ai bm) (bo.2.2.1.ai bm) br (bo.2.2.2.apart bm (KD _) br.lt);clear hV bm br b8;generalize madeCells #[.int .i64 0] b2=ff at c5;have du:=ae (show w.heap.size<=wd.heap.size/\¬w.heap.size=wd.heap.size/\¬w.heap.size+1=wd.heap.size by
    have:=bo.2.2.1.lt;omega)
   clear bo;generalize wd.heap.size=dj at *;have e8:=ah hn d4;go_loopw [9] (λeU dT=>∃(aP:Nat) (dg:Lp) (m c9:Nat) (bR:Lp) (bV bC:Nat) (a6:List hO) (dx:List Int) (cs:Array Value),eU=.int .i64 aP/\aP<=b2/\m<=st+aP+1/\bV<=st+aP+1/\i<m/\a6[i]?=some ⟨dt,dn⟩/\
    cs.size=b2/\Ext w dT/\aq dT w.heap.size 30 #[.slice GA gn gc,.slice MA mn mc,.slice (some ⟨pb,eX,none⟩) pn pc,.int .i64 u.main]/\aq dT (w.heap.size+1) 34 #[.slice none 0 0,.slice none 0 0,.slice none 0 0]/\
    aq dT dj 3 cs/\hi u (w.heap.size+1+1+1+1) (w.heap.size+1+1) (λb=>b=dj) dT dg m c9 bx i bK bR bV bC a6 dx) (λeU _=>b2 - (intOf eU).toNat)
   case atStart=>exact⟨0,_,_,_,_,_,_,_,_,_,rfl,ad,ad,ad,ak,cn.2.2,c5.o⟩
   case round=>
    obtain⟨aP,dg,m,c9,bR,bV,bC,a6,dx,cs,rfl,c3,hm,c6,dI,ed,T,aw,cb,bg,br,N⟩:=hrel;clear c5;have bo:=cK aw cb bg br N;obtain⟨a0,ai,af⟩:=cb.two;obtain⟨a8,am,aF⟩:=N.blk.two;by_cases bk:aP<b2
    .have e6:(aP:Int)<(b2:Int):=ad;have e4:(i:Int)<(m:Int):=ad;have dG:Sl wr (av wr) dg m (a6.map fB):=N.ins.sl (λb h _=>h) (λb h _=>h);obtain⟨di,fg,bA,et,eD,eC,eO,eZ,bi,c0,c1,e7,dR⟩:=dG.vP dI;obtain rfl:bA=⟨dt,dn⟩:=by rw[ed] at bi;injection bi with bi;exact bi.symm
     subst eO;simp only at c0 dR;obtain⟨c8,dY⟩:=aH dR ed;clear dR bi dG aw cb bg br N ed;go_upto_region 14 with(fail);refine qY (λ_=>False) [12] (.held 0 (.free 1 (.held 2 (.free 3 (.free 4 (.held 5 (.free 6 (.pick [7,11] (λi=>bif i == 7 then .free 8 (.free 9 (.free 10 (.pick [11] (λ_=>.pick [12] (λ_=>.free 13 (.stop)))))) else .pick [7] (λ_=>.free 8 (.free 9 (.free 10 (.pick [12] (λ_=>.free 13 (.stop))))))))))))))) ?_;refine th ?_;refine tf ?_;refine th ?_
     iterate 2 refine tf ?_
     refine th ?_;refine tf ?_;have fa:∀k,k<wr.heap.size->k<wr.drew.heap.size:=λ_ h=>h;refine gV (P:=?ow) (ops:=?Hq) (Q:=?Hs) (R:=?Hu) (tails:=?HE) (rest:=.pick [12] (λ_=>.free 13 (.stop))) (aa:=?G3)
      (C:=λ(az:Nat) (ok:Bool) (Y:Value) eN=>Ext wr eN/\aq eN az 151 #[.int .i64 0,.slice none 0 0]/\wr.heap.size<=az/\∃(y:hO) (cX:Lp) (da db:Nat),Y=.agg #[.int .i64 y.proc,.slice cX da db]/\(ok=true->lV u y)/\da<=db/\Sl eN (λb=>wr.heap.size<=b/\b<eN.heap.size/\b≠az) cX da (y.au.map .i)) (λkey=>?vY) ?vR
     case vY=>
      refine aY ?_ ?_
      ·
       refine aB rfl (λK hK=>?_) rfl;go_simp;refine(pz u cz.o GA gn gc MA mn mc (some ⟨pb,eX,none⟩) pn pc ⟨dt,dn⟩ et eD eC dW ei cn.1 cn.2.1 aP ad wr.drew (dC.on bo.1.drew) (c8.on (Fr.ext Ll.drew))).mono ?_;rintro e aS ⟨ok,y,cX,da,db,rfl,bY,dc,cR,ar⟩;refine dz hK (ar) ?_;clear hK K
       iterate 3 refine tf ?_
       refine ao ?_;refine dP ?_;generalize bI:World.alloc _ _=Z;have e2:=aX bI;have cp:wr.heap.size<=aS.heap.size:=ar.size;have F:Ext wr Z/\aq Z aS.heap.size 151 #[.int .i64 0,.slice none 0 0]/\wr.heap.size<=aS.heap.size/\∃(ep:hO) (dD:Lp) (dr dV:Nat),(Value.agg #[.int .i64 y.proc,.slice cX da db])=.agg #[.int .i64 ep.proc,.slice dD dr dV]/\(ok=true->lV u ep)/\dr<=dV/\Sl Z (λb=>wr.heap.size<=b/\b<Z.heap.size/\b≠aS.heap.size) dD dr (ep.au.map .i):=
        ⟨(Fr.aF ar).trans e2,by rw[<-bI];exact Lm,cp,y,cX,da,db,rfl,bY,dc,(cR.ak λb O=>e2.block b O.2 λh=>h).mono λb O=>⟨O.1,KE O.2 e2.size,by have:=O.2;omega⟩⟩
       clear bI e2 cp ar cR bY dc;revert F;generalize aS.heap.size=az;generalize (Value.agg #[.int .i64 y.proc,.slice cX da db])=Y;intro F;exact key az ok Y _ F
      ·
       refine dP ?_;generalize hV:World.drew (World.alloc _ _)=cC;have e1:=gG hV;have cE:=kp hV;have cp:=cE.lt;refine ao ?_;refine aB rfl (λK hK=>?_) rfl;go_simp;refine(pz u cz.o GA gn gc MA mn mc (some ⟨pb,eX,none⟩) pn pc ⟨dt,dn⟩ et eD eC dW ei cn.1 cn.2.1 aP ad cC (dC.on (bo.1.trans e1)) (c8.on (Fr.ext e1))).mono ?_;rintro e aS ⟨ok,y,cX,da,db,rfl,bY,dc,cR,ar⟩;refine dz hK (ar) ?_;clear hK K
       iterate 3 refine tf ?_
       have F:Ext wr aS/\aq aS wr.heap.size 151 #[.int .i64 0,.slice none 0 0]/\wr.heap.size<=wr.heap.size/\∃(ep:hO) (dD:Lp) (dr dV:Nat),(Value.agg #[.int .i64 y.proc,.slice cX da db])=.agg #[.int .i64 ep.proc,.slice dD dr dV]/\(ok=true->lV u ep)/\dr<=dV/\Sl aS (λb=>wr.heap.size<=b/\b<aS.heap.size/\b≠wr.heap.size) dD dr (ep.au.map .i):=
        ⟨e1.trans ar,cE.ai ar,KD _,y,cX,da,db,rfl,bY,dc,cR.mono λb O=>⟨by have:=O.1;omega,O.2,by have:=O.1;omega⟩⟩
       clear hV e1 cE cp ar cR bY dc;revert F key;generalize (Value.agg #[.int .i64 y.proc,.slice cX da db])=Y;intro key F;exact key wr.heap.size ok Y _ F
     case vR=>
      rintro az ok Y eN ⟨cB,bF,gr,y,cX,da,db,rfl,bY,dc,cR⟩;obtain⟨bs,aV,bu⟩:=bF.two;clear a0 ai af a8 am aF c0 c1;exact fj
    .obtain rfl:aP=b2:=ad;obtain⟨xs,d9⟩:=N.Hf;have bS:∀u∈(#[Value.slice (some ⟨dj,0,none⟩) aP aP]:Array Value).toList,u.oneCell'=true:=λu hu=>by
      simp only[Lf] at hu;subst hu;rfl
     have S:w.heap.size+1+1<=wr.heap.size:=by have:=N.blk.lt;omega
     clear aw cb bg br N;go_wp2_with(at_builtin;refine dk _ Hb rfl (.tmp 103) (.tmp 105) rfl (w.heap.size+1+1) _ i xs _ rfl d9 rfl rfl bS ad ad S ?_;intro v1 aS bb a7 cH;obtain⟨cx,ch,eh,e0,_⟩:=b1 bb;subst eh;have aJ:Fr (λb=>(Value.slice bx i bK).ownBlock=some b) wr aS:=Ll.grown a7 (λg a2=>.inl a2);have cE:=bo.2.2.2.2.blk.on aJ (λO=>(bo.2.2.2.2.cg _ O).1 rfl);have bQ:dq wr bx i bK cx (i+1) ch:=(λb O=>cH.elim (λh=>.inl (h▸O)) (λh=>.inr (by rw[h] at O;injection O with O;omega)));have b4:=aD bb aJ bQ;clear a8 am aF bb a7 cH aJ bQ d9 bS;obtain⟨a8,am,aF⟩:=cE.two;clear cE);generalize hw:World.setCell _ _ _=wf;have aj:=(bo.2.2.2.2.IW b4.1 b4.2.1 b4.2.2).free;rw[hw] at aj;have bj:=bo.2.2.2.2.cl;have ag:Fr (λb=>b=w.heap.size+1+1+1+1\/(Value.slice bx i bK).ownBlock=some b) wr wf:=(b4.2.1.mono λ_ h=>.inr h).trans (by rw[<-hw];exact(Fr.refl (λb=>b=w.heap.size+1+1+1+1\/(Value.slice bx i bK).ownBlock=some b) aS).setCell (.inl (.inl rfl)) _);have dK:¬(w.heap.size=w.heap.size+1+1+1+1\/(Value.slice bx i bK).ownBlock=some w.heap.size):=by
      rintro(h|h)
      .omega
      .have:=(bj _ h).1;omega
     have dJ:¬(w.heap.size+1=w.heap.size+1+1+1+1\/(Value.slice bx i bK).ownBlock=some (w.heap.size+1)):=by
      rintro(h|h)
      .omega
      .have:=(bj _ h).1;omega
     have dp:Ext w wf:=bo.1.eN (ag.below bo.1.size (by
      rintro k ap (h|h)
      .omega
      .have:=(bj _ h).1;omega))
     have aW:=bL dp (bo.2.1.on ag dK) (bo.2.2.1.on ag dJ) aj;clear hw aj bj ag dK dJ dp bo b4 a8 am aF;go_roundw
     case rel=>exact⟨i+1,st+aP,dg,m,c9,cx,ch,bR,bV,bC,a6,dx,by go_num,by go_num,ad,ad,ad,ad,ad,aW.o⟩
     case measure=>exact aG
  .obtain rfl:i=n:=ad;clear aw cb N;obtain⟨d0,aL,aM⟩:=bg.two;clear bg;go_wp2_with(fail);generalize ct:World.setCell _ _ _=Y;obtain⟨bE,bG,bH⟩:=dU (M:=λ_=>False) [.slice IA i ic,.slice bx i bK,.slice cc bD rc] (by rfl) bo.2.2.1 (w:=w) bo.1 ad ct;obtain⟨bl,aA,aO⟩:=bE.two;refine Lk (v:=.tuple #[.agg #[.slice IA i ic,.slice bx i bK,.slice cc bD rc],.int .i64 0]) (by simp[results,Tryz.results23,go_sem,bl]) rfl ?_;exact⟨_,_,_,_,_,_,_,_,_,_,rfl,bG⟩
end Go.Proofs.YtglbpimocmhojaaGreat

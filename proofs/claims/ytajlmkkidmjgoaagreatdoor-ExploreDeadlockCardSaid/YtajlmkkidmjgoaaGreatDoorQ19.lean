/- Part 19 of the proof. No condition of its own. -/
import Derived.Test.YtajlmkkidmjgoaaGreatDoorQ17
import Derived.Test.YtajlmkkidmjgoaaGreatDoorQ18
namespace Go.Proofs.YtajlmkkidmjgoaaGreatDoor
open Go.RowKit Go.Proofs.Tryz
set_option maxRecDepth 1000000
set_option maxHeartbeats 25600000
set_option linter.unusedVariables false
variable{p:Prop}
theorem CW{l:List UInt8}(h:(fq l).2.2=0):l.length<=262144:=by
 unfold fq at h;split at h
 .simp at h
 .omega
theorem pH.print{p:bC}(hp:pH p):vz p where
 inits:=λg aM=>by have:=hp.inits g aM;omega
 gh:=λm hm=>by have:=hp.gh m hm;omega
 src:=λf aA=>⟨iE _ 4 (jU (hp.env aA) f.body 4 _ _ (hp.vars aA) (hp.funcs f aA).body),by
  have ac:f.body.num<=(p.funcs.map λf=>f.body.num).sum:=iF (λf:aE=>f.body.num) aA;have:=hp.hW;omega,by have:=(hp.funcs f aA).hW;omega⟩
 len:=CW (sN hp)
 hW:=by
  have:=hp.pe;have:=hp.xm;have:=hp.C5;omega
theorem Dv(w:World)(s:ByteArray)(cap:Nat)(hc:s.size<=cap)(hs:s.size<=1000000)(e:TypeId)(sp:Nat×Nat):fy (w.alloc (.cells (bytesRow s cap) e sp)) w.heap.size 0 cap s:=by
 refine⟨λi ak=>?_,by simp,hc,hs⟩;rw[It,cell_of_row _ _ i _ e sp (heap_alloc_new w _)];unfold bytesRow;rw[Array.getElem?_append_left (by simpa using ak)];simp only[Array.getElem?_map];rw[Array.getElem?_eq_getElem (by simpa using ak)];rfl
namespace zS
theorem yZ(h:p:=by
 go_wp2_with(fail);refine(gJ f.name _ bT).mono ?_;rintro e aO ⟨rfl,ar⟩;rw[i.o];have a3:=ae (bh.trans ar);have b6:=ae (G.aj ar);have ak:=ae (bP.aj ar);have l:=ae ar;clear ar aI aj af;obtain⟨aI,aj,af⟩:=ak.two;go_wp2_with(fail);refine((show DD f.body from sK f.body) 4 0 _ _ _ _ H.o (aC fE.o) ad (dw.on (Fr.ext l.o))).mono ?_;rintro e aT ⟨rfl,bx⟩;have bl:=ae (a3.trans bx);have bI:=ae (b6.aj bx);have s:=ae (ak.aj bx);have ac:=ae (l.trans bx);clear bx aI aj af;obtain⟨aI,aj,af⟩:=s.two;go_wp2;clear aI aj af;go_loopw [8] (λa6 bD=>∃j:Nat,j<=pn/\a6=.int .i64 j/\Ext w bD/\an bD w.heap.size 27 #[.slice GA gn gc,.slice MA mn mc,.slice (some ⟨b,o,none⟩) fn fc]/\Ext V bD) (λa6 _=>pn - (intOf a6).toNat)
 case atStart=>exact⟨0,ad,rfl,bl.o,bI.o,ac.o⟩
 case round=>
  obtain⟨j,a1,rfl,aw,aS,hV⟩:=hrel;obtain⟨M,v,R⟩:=eD aw aS hV;obtain⟨aI,aj,af⟩:=(bP.aj hV).two;by_cases Y:j<pn
  .obtain⟨pb,gO,q,cs,rfl,eJ,am,bE,bd,Z⟩:=(gH.on (Fr.ext hV)).gH si Y;obtain rfl:=qg.1 bE;have c0:=Z 0 _ rfl;have c1:=Z 1 _ rfl;simp only[Ij] at c0;have N:pb<_:=eJ;have Q:=y.params _ (Ia am);obtain⟨cc,qm⟩:=q;simp only at Q c0 c1;have J:=ae (show ja cc=true from Q);have ay:=hv Q;clear aw aS hV bd Z am bE eJ Q;go_wp2_with(fail);refine(gJ cc _ ay).mono ?_;rintro e eG ⟨rfl,dv⟩;rw[J.o];have X:=ae (M.trans dv);have ao:=ae (v.aj dv);have ai:=ae (R.trans dv);clear dv aI aj af c0 c1 N;go_wp2;go_roundw
   case rel=>exact⟨j+1,ad,by go_num,X.o,ao.o,ai.o⟩
   case measure=>exact aF
  .obtain rfl:pn=j:=ad;clear aw aS hV Y;go_wp2;go_roundw
   case rel=>exact⟨k+1,ad,by go_num,M.o,v.o⟩
   case measure=>exact aF
 ):p:=h
theorem qZ(h:p:=by
 obtain⟨b9,cH,eV,bV,ag⟩:=Av hp aM hm aA hp.names;clear h aM hm aA dt lm lf hp;go_enter func32,ntmps32;go_upto_region 1 with(fail);generalize ba:World.alloc _ _=W;have aw:=bm ba;have aS:=aU ba;clear ba;obtain⟨bf,a7⟩:=aN aw aS;obtain⟨aI,aj,af⟩:=aS.two;clear aw aS;go_wp2;clear aI aj af;go_loopw [3] (λah wr=>∃k:Nat,k<=gn/\ah=.int .i64 k/\Ext w wr/\an wr w.heap.size 27 #[.slice GA gn gc,.slice MA mn mc,.slice FA fn fc]) (λah _=>gn - (intOf ah).toNat)
 case atStart=>exact⟨0,ad,rfl,bf.o,a7.o⟩
 case round=>
  obtain⟨k,ap,rfl,aw,aS⟩:=hrel;clear bf a7;obtain⟨bf,a7⟩:=aN aw aS;obtain⟨aI,aj,af⟩:=aS.two;by_cases al:k<gn
  .obtain⟨b,o,g,cs,rfl,O,r,bt,bd,Z⟩:=(cH.on (Fr.ext aw)).gH nY al;obtain rfl:=l3.1 bt;have c0:=Z 0 _ rfl;have c1:=Z 1 _ rfl;simp only[Ij] at c0;have aX:b<_:=O;obtain⟨nm,z⟩:=g;have aY:=b9.inits _ (Ia r);have I:br nm.data.toList=true:=ag.o nm (by simp only[a4,fo,Ii,Iz];exact .inl (.inl ⟨_,Ia r,rfl⟩));have i:=ae (show ja nm=true from I);have bT:=hv I;simp only at aY c0 c1;have bZ:(z == -9223372036854775808)=false:=by simp;omega
   clear aw aS r bt bd Z O I;go_wp2_with(fail);refine(gJ nm _ bT).mono ?_;rintro e aO ⟨rfl,ar⟩;rw[i.o];have bh:=ae (bf.trans ar);have G:=ae (a7.aj ar);have f1:=(ar.cell (j:=o+k*2+1) aX (λh=>h)).trans c1;have bo:b<aO.heap.size:=Hy aX ar.size;clear ar aI aj af c0 c1 aX;obtain⟨aI,aj,af⟩:=G.two;go_wp2;go_roundw
   case rel=>exact⟨k+1,ad,by go_num,bh.o,G.o⟩
   case measure=>exact aF
  .obtain rfl:gn=k:=ad;clear aw aS;go_wp2;clear aI aj af;go_loopw [4] (λah wr=>∃k:Nat,k<=mn/\ah=.int .i64 k/\Ext w wr/\an wr w.heap.size 27 #[.slice GA gn gc,.slice MA mn mc,.slice FA fn fc]) (λah _=>mn - (intOf ah).toNat)
   case atStart=>exact⟨0,ad,rfl,bf.o,a7.o⟩
   case round=>
    obtain⟨k,ap,rfl,aw,aS⟩:=hrel;clear bf a7;obtain⟨bf,a7⟩:=aN aw aS;obtain⟨aI,aj,af⟩:=aS.two;by_cases du:k<mn
    .obtain⟨b,o,m,cs,rfl,O,r,bt,bd,Z⟩:=(eV.on (Fr.ext aw)).gH rb du;obtain rfl:=eN.1 bt;have c0:=Z 0 _ rfl;have c1:=Z 1 _ rfl;have c2:=Z 2 _ rfl;simp only[Ij] at c0;have aX:b<_:=O;obtain⟨nm,re,z⟩:=m;have aY:=b9.gh _ (Ia r);have I:br nm.data.toList=true:=ag.o nm (by simp only[a4,Ii,Iz];exact .inl (.inr ⟨_,Ia r,rfl⟩));have i:=ae (show ja nm=true from I);have bT:=hv I;simp only at aY c0 c1 c2;have q1:decide (z<0)=false:=by simp;omega
     have dq:decide (z > 64)=false:=by simp;omega
     clear bd Z r bt O aw aS I;go_upto_region 12 with(fail);generalize hV:World.alloc _ _=V;have T:=bm hV;have bh:=ae (bf.trans T);have G:=ae (a7.aj T);have hC:=aU hV;have bP:=ae hC;clear hV aI aj af c0 c1 c2 aX bf a7 T;obtain⟨aI,aj,af⟩:=hC.two;clear hC;go_wp2_with(fail);refine(gJ nm _ bT).mono ?_;rintro e aO ⟨rfl,ar⟩;rw[i.o];have a3:=ae (bh.trans ar);have b6:=ae (G.aj ar);have U:=bP.aj ar;clear ar aI aj af;obtain⟨aI,aj,af⟩:=U.two;clear U
     cases re with
     | false=>
      exact DS
     | true=>
      obtain rfl:z=0:=aY.2.2 rfl;exact DS
    .obtain rfl:mn=k:=ad;clear aw aS;go_wp2;clear aI aj af;go_loopw [6] (λah wr=>∃k:Nat,k<=fn/\ah=.int .i64 k/\Ext w wr/\an wr w.heap.size 27 #[.slice GA gn gc,.slice MA mn mc,.slice FA fn fc]) (λah _=>fn - (intOf ah).toNat)
     case atStart=>exact⟨0,ad,rfl,bf.o,a7.o⟩
     case round=>
      obtain⟨k,ap,rfl,aw,aS⟩:=hrel;clear bf a7;obtain⟨bf,a7⟩:=aN aw aS;obtain⟨aI,aj,af⟩:=aS.two;by_cases aa:k<fn
      .obtain⟨b,o,f,cs,rfl,O,r,bt,bd,Z⟩:=(bV.on (Fr.ext aw)).gH oL aa;obtain⟨PA,pn,pc,aW,bn,bc,rfl,cq,bB⟩:=j7 bt;have c0:=Z 0 _ rfl;have c1:=Z 1 _ rfl;have c2:=Z 2 _ rfl;simp only[Ij] at c0;have aX:b<_:=O;have bj:=Ia r;have I:br f.name.data.toList=true:=ag.o f.name (by simp only[a4,Ii,Iz];exact .inr ⟨_,bj,rfl⟩);have i:=ae (show ja f.name=true from I);have bT:=hv I;have b3:f.params.length=pn:=by rw[<-cq.1,Ib]
       have gI:pn<=2:=by have:=(b9.funcs f bj).hW;omega
       have y:=ae (b9.funcs f bj);have H:=ae (jU (b9.env bj) f.body 4 _ _ (b9.vars bj) (b9.funcs f bj).body);have fE:=ae (b9.print.src f bj).2.1;clear bd Z r bt O aw aS I b3 bj;go_upto_region 18 with(fail);exact yY
      .obtain rfl:fn=k:=ad;have u:=ae (show hG _ (av _) p GA gn MA mn FA fn from ⟨cH.on (Fr.ext aw),eV.on (Fr.ext aw),bV.on (Fr.ext aw)⟩);clear aw aS;go_wp2_with(fail);refine(sO p b9.print GA gn gc MA mn mc FA fn fc _ u.o).mono ?_;rintro e cG ⟨rfl,au⟩;have X:=ae (bf.trans au);have kc:=run_bytes_of_string (P:=prog) cG 9 95 5 (strOf (aR (ff p))) Tryz.underlying9 Tryz.underlying95 Tryz.underlying5;have hlen:(strOf (aR (ff p))).size<=262144:=by rw[aK];exact b9.print.len
       have K:=ae (sN b9.o);have ax:(strOf (aR (ff p))).data.toList=aR (ff p):=by simp[strOf]
       generalize hS:strOf (aR (ff p))=S at *;have bi:=grownCap_ge cG S.size 0 5;generalize L:grownCap cG S.size 0 5=cap at *;clear au aI aj af L;go_wp2_with(fail);generalize hV:World.alloc _ _=V;have a5:fy V cG.heap.size 0 cap S:=by
        rw[<-hV];exact Dv cG S cap bi ad _ _
       have T:=bm hV;have aL:=ae (X.trans T);clear hV T kc;refine(wi S cG.heap.size 0 cap V.drew (a5.on IK.drew) hlen).mono ?_;rintro e cz ⟨A,n,c,rfl,aG,b8,aq⟩;have F:=ae (aL.drew.trans (Fr.of aq));rw[show (fq S.data.toList).2.2=0 by rw[ax];exact K.o];clear b8 aq a5;go_wp2;go_ret;exact⟨rfl,F.o⟩
 ):p:=h
theorem tF(h:p:=by
 exact qY
 ):p:=h
end zS
open zS in
theorem Dw(p:bC)(hp:pH p)(GA:IP)(gn gc:Nat)(MA:IP)(mn mc:Nat)(FA:IP)(fn fc:Nat)(w:World)(h:hG w (av w) p GA gn MA mn FA fn) :
  Calls prog 32 #[.agg #[.slice GA gn gc,.slice MA mn mc,.slice FA fn fc]] w λe ab=>e=.returned (.bool true)/\Ext w ab:=by
 exact tE
end Go.Proofs.YtajlmkkidmjgoaaGreatDoor

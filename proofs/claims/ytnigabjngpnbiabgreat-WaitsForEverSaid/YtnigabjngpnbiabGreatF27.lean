/- Part 27 of the proof. No condition of its own. -/
import Derived.Test.YtnigabjngpnbiabGreatF14
import Derived.Test.YtnigabjngpnbiabGreatF26
namespace Go.Proofs.YtnigabjngpnbiabGreat
open Go.RowKit Go.Proofs.Tryz
set_option maxRecDepth 1000000
set_option maxHeartbeats 25600000
set_option linter.unusedVariables false
variable{p:Prop}
theorem G8{l:List UInt8}(h:(dU l).2.2=0):l.length<=262144:=by
 unfold dU at h;split at h
 .simp at h
 .omega
theorem pe.print{p:bN}(hp:pe p):yh p where
 inits:=λg aR=>by have:=hp.inits g aR;omega
 gV:=λm hm=>by have:=hp.gV m hm;omega
 src:=λf J=>⟨jD _ 4 (kK (hp.env J) f.body 4 _ _ (hp.vars J) (hp.funcs f J).body),by
  have ac:f.body.num<=(p.funcs.map λf=>f.body.num).sum:=jE (λf:aI=>f.body.num) J;have:=hp.jo;omega,by have:=(hp.funcs f J).jo;omega⟩
 len:=G8 (vu hp)
 jo:=by
  have:=hp.qM;have:=hp.zX;have:=hp.Hc;omega
theorem zg(w:World)(s:ByteArray)(cap:Nat)(hc:s.size<=cap)(hs:s.size<=1000000)(e:TypeId)(sp:Nat×Nat):e4 (w.alloc (.cells (bytesRow s cap) e sp)) w.heap.size 0 cap s:=by
 refine⟨λi aN=>?_,by simp,hc,hs⟩;rw[Nm,cell_of_row _ _ i _ e sp (heap_alloc_new w _)];unfold bytesRow;rw[Array.getElem?_append_left (by simpa using aN)];simp only[Array.getElem?_map];rw[Array.getElem?_eq_getElem (by simpa using aN)];rfl
namespace Dq
theorem B7(h:p:=by
 go_wp2_with(fail);refine(hB f.name _ U).mono ?_;rintro e aO ⟨rfl,ar⟩;rw[i.o];have a8:=ae (bw.trans ar);have cb:=ae (G.aj ar);have cF:=ae (bY.aj ar);have s:=ae ar;clear ar a0 ak af;obtain⟨a0,ak,af⟩:=cF.two;go_wp2_with(fail);refine((show HQ f.body from vq f.body) 4 0 _ _ _ _ ac.o (ax fI.o) ad (dv.on (Fr.ext s.o))).mono ?_;rintro e aW ⟨rfl,bF⟩;have a4:=ae (a8.trans bF);have cm:=ae (cb.aj bF);have y:=ae (cF.aj bF);have ah:=ae (s.trans bF);clear bF a0 ak af;obtain⟨a0,ak,af⟩:=y.two;go_wp2;clear a0 ak af;go_loopw [8] (λbj b7=>∃j:Nat,j<=pn/\bj=.int .i64 j/\Ext w b7/\an b7 w 56 #[.slice GA gn gc,.slice MA mn mc,.slice (some ⟨b,o,none⟩) fn fc]/\Ext V b7) (λbj _=>pn - (intOf bj).toNat)
 case atStart=>exact⟨0,ad,rfl,a4.o,cm.o,ah.o⟩
 case round=>
  obtain⟨j,bi,rfl,aF,aT,hV⟩:=hrel;obtain⟨R,v,Y⟩:=eU aF aT hV;obtain⟨a0,ak,af⟩:=(bY.aj hV).two;by_cases X:j<pn
  .obtain⟨pb,gR,q,cs,rfl,bl,am,bG,bu,Z⟩:=(gN.on (Fr.ext hV)).g1 uP X;obtain rfl:=sc.1 bG;have c0:=Z 0 _ rfl;have c1:=Z 1 _ rfl;simp only[Nd] at c0;have N:pb<_:=bl;have T:=l.params _ (M4 am);obtain⟨cq,qm⟩:=q;simp only at T c0 c1;have ag:=ae (show jX cq=true from T);have ay:=iE T;clear aF aT hV bu Z am bG bl T;go_wp2_with(fail);refine(hB cq _ ay).mono ?_;rintro e cO ⟨rfl,dt⟩;rw[ag.o];have F:=ae (R.trans dt);have aw:=ae (v.aj dt);have aq:=ae (Y.trans dt);clear dt a0 ak af c0 c1 N;go_wp2;go_roundw
   case rel=>exact⟨j+1,ad,by go_num,F.o,aw.o,aq.o⟩
   case measure=>exact aH
  .obtain rfl:pn=j:=ad;clear aF aT hV X;go_wp2;go_roundw
   case rel=>exact⟨k+1,ad,by go_num,R.o,v.o⟩
   case measure=>exact aH
 ):p:=h
theorem ti(h:p:=by
 obtain⟨ck,I,dX,bZ,Q⟩:=Er hp aR hm J hp.names;clear h aR hm J ds lm lf hp;go_enter func46,ntmps46;go_upto_region 1 with(fail);generalize be:World.alloc _ _=W;have aF:=aX be;have aT:=aL be;clear be;obtain⟨bk,bL⟩:=aJ aF aT;obtain⟨a0,ak,af⟩:=aT.two;clear aF aT;go_wp2;clear a0 ak af;go_loopw [3] (λL wr=>∃k:Nat,k<=gn/\L=.int .i64 k/\Ext w wr/\an wr w 56 #[.slice GA gn gc,.slice MA mn mc,.slice FA fn fc]) (λL _=>gn - (intOf L).toNat)
 case atStart=>exact⟨0,ad,rfl,bk.o,bL.o⟩
 case round=>
  obtain⟨k,aj,rfl,aF,aT⟩:=hrel;clear bk bL;obtain⟨bk,bL⟩:=aJ aF aT;obtain⟨a0,ak,af⟩:=aT.two;by_cases ap:k<gn
  .obtain⟨b,o,g,cs,rfl,O,r,al,bu,Z⟩:=(I.on (Fr.ext aF)).g1 px ap;obtain rfl:=mW.1 al;have c0:=Z 0 _ rfl;have c1:=Z 1 _ rfl;simp only[Nd] at c0;have aZ:b<_:=O;obtain⟨nm,z⟩:=g;have ba:=ck.inits _ (M4 r);have aa:bB nm.data.toList=true:=Q.o nm (by simp only[bm,fZ,Nc,Ns];exact .inl (.inl ⟨_,M4 r,rfl⟩));have i:=ae (show jX nm=true from aa);have U:=iE aa;simp only at ba c0 c1;have bI:(z == -9223372036854775808)=false:=by simp;omega
   clear aF aT r al bu Z O aa;go_wp2_with(fail);refine(hB nm _ U).mono ?_;rintro e aO ⟨rfl,ar⟩;rw[i.o];have bw:=ae (bk.trans ar);have G:=ae (bL.aj ar);have f1:=(ar.cell (j:=o+k*2+1) aZ (λh=>h)).trans c1;have b2:b<aO:=M0 aZ ar.size;clear ar a0 ak af c0 c1 aZ;obtain⟨a0,ak,af⟩:=G.two;go_wp2;go_roundw
   case rel=>exact⟨k+1,ad,by go_num,bw.o,G.o⟩
   case measure=>exact aH
  .obtain rfl:gn=k:=ad;clear aF aT;go_wp2;clear a0 ak af;go_loopw [4] (λL wr=>∃k:Nat,k<=mn/\L=.int .i64 k/\Ext w wr/\an wr w 56 #[.slice GA gn gc,.slice MA mn mc,.slice FA fn fc]) (λL _=>mn - (intOf L).toNat)
   case atStart=>exact⟨0,ad,rfl,bk.o,bL.o⟩
   case round=>
    obtain⟨k,aj,rfl,aF,aT⟩:=hrel;clear bk bL;obtain⟨bk,bL⟩:=aJ aF aT;obtain⟨a0,ak,af⟩:=aT.two;by_cases cG:k<mn
    .obtain⟨b,o,m,cs,rfl,O,r,al,bu,Z⟩:=(dX.on (Fr.ext aF)).g1 tz cG;obtain rfl:=fv.1 al;have c0:=Z 0 _ rfl;have c1:=Z 1 _ rfl;have c2:=Z 2 _ rfl;simp only[Nd] at c0;have aZ:b<_:=O;obtain⟨nm,re,z⟩:=m;have ba:=ck.gV _ (M4 r);have aa:bB nm.data.toList=true:=Q.o nm (by simp only[bm,Nc,Ns];exact .inl (.inr ⟨_,M4 r,rfl⟩));have i:=ae (show jX nm=true from aa);have U:=iE aa;simp only at ba c0 c1 c2;have q1:decide (z<0)=false:=by simp;omega
     have cL:decide (z > 64)=false:=by simp;omega
     clear bu Z r al O aF aT aa;go_upto_region 12 with(fail);generalize hV:World.alloc _ _=V;have ai:=aX hV;have bw:=ae (bk.trans ai);have G:=ae (bL.aj ai);have hC:=aL hV;have bY:=ae hC;clear hV a0 ak af c0 c1 c2 aZ bk bL ai;obtain⟨a0,ak,af⟩:=hC.two;clear hC;go_wp2_with(fail);refine(hB nm _ U).mono ?_;rintro e aO ⟨rfl,ar⟩;rw[i.o];have a8:=ae (bw.trans ar);have cb:=ae (G.aj ar);have bt:=bY.aj ar;clear ar a0 ak af;obtain⟨a0,ak,af⟩:=bt.two;clear bt
     cases re with
     | false=>
      exact Ij
     | true=>
      obtain rfl:z=0:=ba.2.2 rfl;exact Ij
    .obtain rfl:mn=k:=ad;clear aF aT;go_wp2;clear a0 ak af;go_loopw [6] (λL wr=>∃k:Nat,k<=fn/\L=.int .i64 k/\Ext w wr/\an wr w 56 #[.slice GA gn gc,.slice MA mn mc,.slice FA fn fc]) (λL _=>fn - (intOf L).toNat)
     case atStart=>exact⟨0,ad,rfl,bk.o,bL.o⟩
     case round=>
      obtain⟨k,aj,rfl,aF,aT⟩:=hrel;clear bk bL;obtain⟨bk,bL⟩:=aJ aF aT;obtain⟨a0,ak,af⟩:=aT.two;by_cases cn:k<fn
      .obtain⟨b,o,f,cs,rfl,O,r,al,bu,Z⟩:=(bZ.on (Fr.ext aF)).g1 qo cn;obtain⟨PA,pn,pc,f0,bn,bc,rfl,cc,bA⟩:=kU al;have c0:=Z 0 _ rfl;have c1:=Z 1 _ rfl;have c2:=Z 2 _ rfl;simp only[Nd] at c0;have aZ:b<_:=O;have bE:=M4 r;have aa:bB f.name.data.toList=true:=Q.o f.name (by simp only[bm,Nc,Ns];exact .inr ⟨_,bE,rfl⟩);have i:=ae (show jX f.name=true from aa);have U:=iE aa;have bo:f.params.length=pn:=by rw[<-cc.1,M5]
       have gM:pn<=2:=by have:=(ck.funcs f bE).jo;omega
       have l:=ae (ck.funcs f bE);have ac:=ae (kK (ck.env bE) f.body 4 _ _ (ck.vars bE) (ck.funcs f bE).body);have fI:=ae (ck.print.src f bE).2.1;clear bu Z r al O aF aT aa bo bE;go_upto_region 18 with(fail);exact B6
      .obtain rfl:fn=k:=ad;have u:=ae (show gX _ (av _) p GA gn MA mn FA fn from ⟨I.on (Fr.ext aF),dX.on (Fr.ext aF),bZ.on (Fr.ext aF)⟩);clear aF aT;go_wp2_with(fail);refine(vv p ck.print GA gn gc MA mn mc FA fn fc _ u.o).mono ?_;rintro e cV ⟨rfl,az⟩;have F:=ae (bk.trans az);have kc:=run_bytes_of_string (P:=prog) cV 9 65 5 (strOf (aV (fS p))) Tryz.underlying9 Tryz.underlying65 Tryz.underlying5;have hlen:(strOf (aV (fS p))).size<=262144:=by rw[aC];exact ck.print.len
       have K:=ae (vu ck.o);have au:(strOf (aV (fS p))).data.toList=aV (fS p):=by simp[strOf]
       generalize hS:strOf (aV (fS p))=S at *;have bJ:=grownCap_ge cV S.size 0 5;generalize M:grownCap cV S.size 0 5=cap at *;clear az a0 ak af M;go_wp2_with(fail);generalize hV:World.alloc _ _=V;have hT:e4 V cV 0 cap S:=by
        rw[<-hV];exact zg cV S cap bJ ad _ _
       have ai:=aX hV;have aG:=ae (F.trans ai);clear hV ai kc;refine(yR S cV 0 cap V.drew (hT.on NC.drew) hlen).mono ?_;rintro e cJ ⟨A,n,c,rfl,aQ,bS,ao⟩;have H:=ae (aG.drew.trans (Fr.of ao));rw[show (dU S.data.toList).2.2=0 by rw[au];exact K.o];clear bS ao hT;go_wp2;go_ret;exact⟨rfl,H.o⟩
 ):p:=h
theorem wI(h:p:=by
 exact tg
 ):p:=h
end Dq
open Dq in
theorem HK(p:bN)(hp:pe p)(GA:NH)(gn gc:Nat)(MA:NH)(mn mc:Nat)(FA:NH)(fn fc:Nat)(w:World)(h:gX w (av w) p GA gn MA mn FA fn) :
  Calls prog 46 #[.agg #[.slice GA gn gc,.slice MA mn mc,.slice FA fn fc]] w λe ab=>e=.returned true/\Ext w ab:=by
 exact wH
end Go.Proofs.YtnigabjngpnbiabGreat

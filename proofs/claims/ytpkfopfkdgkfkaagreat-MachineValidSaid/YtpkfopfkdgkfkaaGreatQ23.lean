/- Part 23 of the proof. No condition of its own. -/
import Derived.Test.YtpkfopfkdgkfkaaGreatQ21
import Derived.Test.YtpkfopfkdgkfkaaGreatQ22
namespace Go.Proofs.YtpkfopfkdgkfkaaGreat
open Go.RowKit Go.Proofs.Tryz
set_option maxRecDepth 1000000
set_option maxHeartbeats 25600000
set_option linter.unusedVariables false
variable{p:Prop}
theorem Gq{l:List UInt8}(h:(dE l).2.2=0):l.length<=262144:=by
 unfold dE at h;split at h
 .simp at h
 .omega
theorem oJ.print{p:bQ}(hp:oJ p):xG p where
 inits:=λg aR=>by have:=hp.inits g aR;omega
 eD:=λm hm=>by have:=hp.eD m hm;omega
 src:=λf J=>⟨jq _ 4 (kv (hp.env J) f.body 4 _ _ (hp.vars J) (hp.funcs f J).body),by
  have ac:f.body.num<=(p.funcs.map λf=>f.body.num).sum:=js (λf:aL=>f.body.num) J;have:=hp.ja;omega,by have:=(hp.funcs f J).ja;omega⟩
 len:=Gq (uB hp)
 ja:=by
  have:=hp.oj;have:=hp.wP;have:=hp.E0;omega
theorem yr(w:World)(s:ByteArray)(cap:Nat)(hc:s.size<=cap)(hs:s.size<=1000000)(e:TypeId)(sp:Nat×Nat):fF (w.alloc (.cells (bytesRow s cap) e sp)) w.heap.size 0 cap s:=by
 refine⟨λi aX=>?_,by simp,hc,hs⟩;rw[L8,cell_of_row _ _ i _ e sp (heap_alloc_new w _)];unfold bytesRow;rw[Array.getElem?_append_left (by simpa using aX)];simp only[Array.getElem?_map];rw[Array.getElem?_eq_getElem (by simpa using aX)];rfl
namespace Dp
theorem Bk(h:p:=by
 go_wp2_with(fail);refine(hk f.name _ U).mono ?_;rintro e aS ⟨rfl,ar⟩;rw[i.o];have a8:=ae (bB.trans ar);have bz:=ae (G.aj ar);have bj:=ae (bU.aj ar);have cA:=ae ar;clear ar a0 ai af;obtain⟨a0,ai,af⟩:=bj.two;go_wp2_with(fail);refine((show G5 f.body from uy f.body) 4 0 _ _ _ _ H.o (ay fI.o) ad (dr.on (Fr.ext cA.o))).mono ?_;rintro e aT ⟨rfl,bJ⟩;have cd:=ae (a8.trans bJ);have bf:=ae (bz.aj bJ);have l:=ae (bj.aj bJ);have ac:=ae (cA.trans bJ);clear bJ a0 ai af;obtain⟨a0,ai,af⟩:=l.two;go_wp2;clear a0 ai af;go_loopw [8] (λbY bM=>∃j:Nat,j<=pn/\bY=.int .i64 j/\Ext w bM/\au bM w 31 #[.slice GA gn gc,.slice MA mn mc,.slice (some ⟨b,o,none⟩) fn fc]/\Ext V bM) (λbY _=>pn - (intOf bY).toNat)
 case atStart=>exact⟨0,ad,rfl,cd.o,bf.o,ac.o⟩
 case round=>
  obtain⟨j,bd,rfl,aw,aQ,hV⟩:=hrel;obtain⟨v,u,X⟩:=ef aw aQ hV;obtain⟨a0,ai,af⟩:=(bU.aj hV).two;by_cases Q:j<pn
  .obtain⟨pb,gU,q,cs,rfl,cZ,Y,bL,bh,a4⟩:=(b7.on (Fr.ext hV)).hf tU Q;obtain rfl:=rE.1 bL;have c0:=a4 0 _ rfl;have c1:=a4 1 _ rfl;simp only[LW] at c0;have bg:pb<_:=cZ;have T:=y.params _ (LN Y);obtain⟨b1,qm⟩:=q;simp only at T c0 c1;have Z:=ae (show jK b1=true from T);have ak:=iu T;clear aw aQ hV bh a4 Y bL cZ T;go_wp2_with(fail);refine(hk b1 _ ak).mono ?_;rintro e cS ⟨rfl,dv⟩;rw[Z.o];have aa:=ae (v.trans dv);have N:=ae (u.aj dv);have ag:=ae (X.trans dv);clear dv a0 ai af c0 c1 bg;go_wp2;go_roundw
   case rel=>exact⟨j+1,ad,by go_num,aa.o,N.o,ag.o⟩
   case measure=>exact aH
  .obtain rfl:pn=j:=ad;clear aw aQ hV Q;go_wp2;go_roundw
   case rel=>exact⟨k+1,ad,by go_num,v.o,u.o⟩
   case measure=>exact aH
 ):p:=h
theorem sJ(h:p:=by
 obtain⟨ct,I,cU,b3,F⟩:=Di hp aR hm J hp.names;clear h aR hm J dx lm lf hp;go_enter func32,ntmps32;go_upto_region 1 with(fail);generalize ba:World.alloc _ _=W;have aw:=aU ba;have aQ:=aI ba;clear ba;obtain⟨br,b9⟩:=aJ aw aQ;obtain⟨a0,ai,af⟩:=aQ.two;clear aw aQ;go_wp2;clear a0 ai af;go_loopw [3] (λbH wr=>∃k:Nat,k<=gn/\bH=.int .i64 k/\Ext w wr/\au wr w 31 #[.slice GA gn gc,.slice MA mn mc,.slice FA fn fc]) (λbH _=>gn - (intOf bH).toNat)
 case atStart=>exact⟨0,ad,rfl,br.o,b9.o⟩
 case round=>
  obtain⟨k,aj,rfl,aw,aQ⟩:=hrel;clear br b9;obtain⟨br,b9⟩:=aJ aw aQ;obtain⟨a0,ai,af⟩:=aQ.two;by_cases an:k<gn
  .obtain⟨b,o,g,cs,rfl,O,r,a6,bh,a4⟩:=(I.on (Fr.ext aw)).hf oR an;obtain rfl:=mE.1 a6;have c0:=a4 0 _ rfl;have c1:=a4 1 _ rfl;simp only[LW] at c0;have a1:b<_:=O;obtain⟨nm,z⟩:=g;have a5:=ct.inits _ (LN r);have R:bD nm.data.toList=true:=F.o nm (by simp only[bk,fC,LU,Mf];exact .inl (.inl ⟨_,LN r,rfl⟩));have i:=ae (show jK nm=true from R);have U:=iu R;simp only at a5 c0 c1;have bI:(z == -9223372036854775808)=false:=by simp;omega
   clear aw aQ r a6 bh a4 O R;go_wp2_with(fail);refine(hk nm _ U).mono ?_;rintro e aS ⟨rfl,ar⟩;rw[i.o];have bB:=ae (br.trans ar);have G:=ae (b9.aj ar);have f1:=(ar.cell (j:=o+k*2+1) a1 (λh=>h)).trans c1;have b0:b<aS:=LL a1 ar.size;clear ar a0 ai af c0 c1 a1;obtain⟨a0,ai,af⟩:=G.two;go_wp2;go_roundw
   case rel=>exact⟨k+1,ad,by go_num,bB.o,G.o⟩
   case measure=>exact aH
  .obtain rfl:gn=k:=ad;clear aw aQ;go_wp2;clear a0 ai af;go_loopw [4] (λbH wr=>∃k:Nat,k<=mn/\bH=.int .i64 k/\Ext w wr/\au wr w 31 #[.slice GA gn gc,.slice MA mn mc,.slice FA fn fc]) (λbH _=>mn - (intOf bH).toNat)
   case atStart=>exact⟨0,ad,rfl,br.o,b9.o⟩
   case round=>
    obtain⟨k,aj,rfl,aw,aQ⟩:=hrel;clear br b9;obtain⟨br,b9⟩:=aJ aw aQ;obtain⟨a0,ai,af⟩:=aQ.two;by_cases cg:k<mn
    .obtain⟨b,o,m,cs,rfl,O,r,a6,bh,a4⟩:=(cU.on (Fr.ext aw)).hf sV cg;obtain rfl:=ft.1 a6;have c0:=a4 0 _ rfl;have c1:=a4 1 _ rfl;have c2:=a4 2 _ rfl;simp only[LW] at c0;have a1:b<_:=O;obtain⟨nm,re,z⟩:=m;have a5:=ct.eD _ (LN r);have R:bD nm.data.toList=true:=F.o nm (by simp only[bk,LU,Mf];exact .inl (.inr ⟨_,LN r,rfl⟩));have i:=ae (show jK nm=true from R);have U:=iu R;simp only at a5 c0 c1 c2;have q1:decide (z<0)=false:=by simp;omega
     have cJ:decide (z > 64)=false:=by simp;omega
     clear bh a4 r a6 O aw aQ R;go_upto_region 12 with(fail);generalize hV:World.alloc _ _=V;have L:=aU hV;have bB:=ae (br.trans L);have G:=ae (b9.aj L);have hC:=aI hV;have bU:=ae hC;clear hV a0 ai af c0 c1 c2 a1 br b9 L;obtain⟨a0,ai,af⟩:=hC.two;clear hC;go_wp2_with(fail);refine(hk nm _ U).mono ?_;rintro e aS ⟨rfl,ar⟩;rw[i.o];have a8:=ae (bB.trans ar);have bz:=ae (G.aj ar);have bm:=bU.aj ar;clear ar a0 ai af;obtain⟨a0,ai,af⟩:=bm.two;clear bm
     cases re with
     | false=>
      exact Hx
     | true=>
      obtain rfl:z=0:=a5.2.2 rfl;exact Hx
    .obtain rfl:mn=k:=ad;clear aw aQ;go_wp2;clear a0 ai af;go_loopw [6] (λbH wr=>∃k:Nat,k<=fn/\bH=.int .i64 k/\Ext w wr/\au wr w 31 #[.slice GA gn gc,.slice MA mn mc,.slice FA fn fc]) (λbH _=>fn - (intOf bH).toNat)
     case atStart=>exact⟨0,ad,rfl,br.o,b9.o⟩
     case round=>
      obtain⟨k,aj,rfl,aw,aQ⟩:=hrel;clear br b9;obtain⟨br,b9⟩:=aJ aw aQ;obtain⟨a0,ai,af⟩:=aQ.two;by_cases aX:k<fn
      .obtain⟨b,o,f,cs,rfl,O,r,a6,bh,a4⟩:=(b3.on (Fr.ext aw)).hf pS aX;obtain⟨PA,pn,pc,ce,bn,bc,rfl,bO,bl⟩:=kJ a6;have c0:=a4 0 _ rfl;have c1:=a4 1 _ rfl;have c2:=a4 2 _ rfl;simp only[LW] at c0;have a1:b<_:=O;have cY:=LN r;have R:bD f.name.data.toList=true:=F.o f.name (by simp only[bk,LU,Mf];exact .inr ⟨_,cY,rfl⟩);have i:=ae (show jK f.name=true from R);have U:=iu R;have bi:f.params.length=pn:=by rw[<-bO.1,LO]
       have dW:pn<=2:=by have:=(ct.funcs f cY).ja;omega
       have y:=ae (ct.funcs f cY);have H:=ae (kv (ct.env cY) f.body 4 _ _ (ct.vars cY) (ct.funcs f cY).body);have fI:=ae (ct.print.src f cY).2.1;clear bh a4 r a6 O aw aQ R bi cY;go_upto_region 18 with(fail);exact Bj
      .obtain rfl:fn=k:=ad;have s:=ae (show hL _ (aq _) p GA gn MA mn FA fn from ⟨I.on (Fr.ext aw),cU.on (Fr.ext aw),b3.on (Fr.ext aw)⟩);clear aw aQ;go_wp2_with(fail);refine(uC p ct.print GA gn gc MA mn mc FA fn fc _ s.o).mono ?_;rintro e c6 ⟨rfl,aB⟩;have aa:=ae (br.trans aB);have kc:=run_bytes_of_string (P:=prog) c6 9 87 5 (strOf (aV (fS p))) Tryz.underlying9 Tryz.underlying87 Tryz.underlying5;have hlen:(strOf (aV (fS p))).size<=262144:=by rw[aP];exact ct.print.len
       have K:=ae (uB ct.o);have ah:(strOf (aV (fS p))).data.toList=aV (fS p):=by simp[strOf]
       generalize hS:strOf (aV (fS p))=S at *;have bb:=grownCap_ge c6 S.size 0 5;generalize M:grownCap c6 S.size 0 5=cap at *;clear aB a0 ai af M;go_wp2_with(fail);generalize hV:World.alloc _ _=V;have hT:fF V c6 0 cap S:=by
        rw[<-hV];exact yr c6 S cap bb ad _ _
       have L:=aU hV;have aG:=ae (aa.trans L);clear hV L kc;refine(x6 S c6 0 cap V.drew (hT.on Mo.drew) hlen).mono ?_;rintro e cV ⟨A,n,c,rfl,aY,cf,dU⟩;have aL:=ae (aG.drew.trans (Fr.of dU));rw[show (dE S.data.toList).2.2=0 by rw[ah];exact K.o];clear cf dU hT;go_wp2;go_ret;exact⟨rfl,aL.o⟩
 ):p:=h
theorem vG(h:p:=by
 exact sI
 ):p:=h
end Dp
open Dp in
theorem GY(p:bQ)(hp:oJ p)(GA:Mt)(gn gc:Nat)(MA:Mt)(mn mc:Nat)(FA:Mt)(fn fc:Nat)(w:World)(h:hL w (aq w) p GA gn MA mn FA fn) :
  Calls prog 32 #[.agg #[.slice GA gn gc,.slice MA mn mc,.slice FA fn fc]] w λe ab=>e=.returned true/\Ext w ab:=by
 exact vF
end Go.Proofs.YtpkfopfkdgkfkaaGreat

/- Part 34 of the proof. No condition of its own. -/
import Derived.Test.YtnigabjngpnbiaaGreatQ32
import Derived.Test.YtnigabjngpnbiaaGreatQ33
namespace Go.Proofs.YtnigabjngpnbiaaGreat
open Go.RowKit Go.Proofs.Tryz
set_option maxRecDepth 1000000
set_option maxHeartbeats 25600000
set_option linter.unusedVariables false
variable{p:Prop}
theorem Et{l:List UInt8}(h:(cd l).2.2=0):l.length<=262144:=by
 unfold cd at h;split at h
 .simp at h
 .omega
theorem nE.print{p:bC}(hp:nE p):vC p where
 inits:=λg aS=>by have:=hp.inits g aS;omega
 gE:=λm hm=>by have:=hp.gE m hm;omega
 src:=λf aA=>⟨iy _ 4 (jL (hp.env aA) f.body 4 _ _ (hp.vars aA) (hp.funcs f aA).body),by
  have ac:f.body.num<=(p.funcs.map λf=>f.body.num).sum:=iA (λf:a1=>f.body.num) aA;have:=hp.iN;omega,by have:=(hp.funcs f aA).iN;omega⟩
 len:=Et (sI hp)
 iN:=by
  have:=hp.lN;have:=hp.uC;have:=hp.xl;omega
theorem wH(w:World)(s:ByteArray)(cap:Nat)(hc:s.size<=cap)(hs:s.size<=1000000)(e:TypeId)(sp:Nat×Nat):eG (w.alloc (.cells (bytesRow s cap) e sp)) w.heap.size 0 cap s:=by
 refine⟨λi I=>?_,by simp,hc,hs⟩;rw[J0,cell_of_row _ _ i _ e sp (heap_alloc_new w _)];unfold bytesRow;rw[Array.getElem?_append_left (by simpa using I)];simp only[Array.getElem?_map];rw[Array.getElem?_eq_getElem (by simpa using I)];rfl
namespace Bc
theorem zM(h:p:=by
 go_wp2_with(fail);refine(gz f.name _ bH).mono ?_;rintro e aL ⟨rfl,L⟩;rw[i.o];have aT:=ae (bs.trans L);have bt:=ae (y.aj L);have c6:=ae (bK.aj L);have l:=ae L;clear L a0 al af;obtain⟨a0,al,af⟩:=c6.two;go_wp2_with(fail);refine((show E9 f.body from sF f.body) 4 0 _ _ _ _ ag.o (aC fC.o) ad (dD.on (Fr.ext l.o))).mono ?_;rintro e aV ⟨rfl,H⟩;have a4:=ae (aT.trans H);have cb:=ae (bt.aj H);have aa:=ae (c6.aj H);have ak:=ae (l.trans H);clear H a0 al af;obtain⟨a0,al,af⟩:=aa.two;go_wp2;clear a0 al af;go_loopw [8] (λbM aG=>∃j:Nat,j<=pn/\bM=.int .i64 j/\Ext w aG/\au aG w.heap.size 44 #[.slice GA gn gc,.slice MA mn mc,.slice (some ⟨b,o,none⟩) fn fc]/\Ext V aG) (λbM _=>pn - (intOf bM).toNat)
 case atStart=>exact⟨0,ad,rfl,a4.o,cb.o,ak.o⟩
 case round=>
  obtain⟨j,be,rfl,ar,aK,hV⟩:=hrel;obtain⟨Q,v,U⟩:=eS ar aK hV;obtain⟨a0,al,af⟩:=(bK.aj hV).two;by_cases Y:j<pn
  .obtain⟨pb,db,q,cs,rfl,ch,X,bA,a8,Z⟩:=(c5.on (Fr.ext hV)).iG sa Y;obtain rfl:=p2.1 bA;have c0:=Z 0 _ rfl;have c1:=Z 1 _ rfl;simp only[JS] at c0;have a3:pb<_:=ch;have R:=ac.params _ (JL X);obtain⟨bI,qm⟩:=q;simp only at R c0 c1;have ai:=ae (show iS bI=true from R);have ap:=hi R;clear ar aK hV a8 Z X bA ch R;go_wp2_with(fail);refine(gz bI _ ap).mono ?_;rintro e cE ⟨rfl,dk⟩;rw[ai.o];have I:=ae (Q.trans dk);have ah:=ae (v.aj dk);have am:=ae (U.trans dk);clear dk a0 al af c0 c1 a3;go_wp2;go_roundw
   case rel=>exact⟨j+1,ad,by go_num,I.o,ah.o,am.o⟩
   case measure=>exact aU
  .obtain rfl:pn=j:=ad;clear ar aK hV Y;go_wp2;go_roundw
   case rel=>exact⟨k+1,ad,by go_num,Q.o,v.o⟩
   case measure=>exact aU
 ):p:=h
theorem q6(h:p:=by
 obtain⟨cw,cO,cF,b6,az⟩:=BG hp aS hm aA hp.names;clear h aS hm aA dB lm lf hp;go_enter func56,ntmps56;go_upto_region 1 with(fail);generalize ba:World.alloc _ _=W;have ar:=aY ba;have aK:=aF ba;clear ba;obtain⟨bd,bL⟩:=aI ar aK;obtain⟨a0,al,af⟩:=aK.two;clear ar aK;go_wp2;clear a0 al af;go_loopw [3] (λaX wr=>∃k:Nat,k<=gn/\aX=.int .i64 k/\Ext w wr/\au wr w.heap.size 44 #[.slice GA gn gc,.slice MA mn mc,.slice FA fn fc]) (λaX _=>gn - (intOf aX).toNat)
 case atStart=>exact⟨0,ad,rfl,bd.o,bL.o⟩
 case round=>
  obtain⟨k,aj,rfl,ar,aK⟩:=hrel;clear bd bL;obtain⟨bd,bL⟩:=aI ar aK;obtain⟨a0,al,af⟩:=aK.two;by_cases aq:k<gn
  .obtain⟨b,o,g,cs,rfl,O,r,N,a8,Z⟩:=(cO.on (Fr.ext ar)).iG nq aq;obtain rfl:=lD.1 N;have c0:=Z 0 _ rfl;have c1:=Z 1 _ rfl;simp only[JS] at c0;have aN:b<_:=O;obtain⟨nm,z⟩:=g;have aZ:=cw.inits _ (JL r);have G:bw nm.data.toList=true:=az.o nm (by simp only[bF,gU,JR,J6];exact .inl (.inl ⟨_,JL r,rfl⟩));have i:=ae (show iS nm=true from G);have bH:=hi G;simp only at aZ c0 c1;have bS:(z == -9223372036854775808)=false:=by simp;omega
   clear ar aK r N a8 Z O G;go_wp2_with(fail);refine(gz nm _ bH).mono ?_;rintro e aL ⟨rfl,L⟩;rw[i.o];have bs:=ae (bd.trans L);have y:=ae (bL.aj L);have f1:=(L.cell (j:=o+k*2+1) aN (λh=>h)).trans c1;have bY:b<aL.heap.size:=JJ aN L.size;clear L a0 al af c0 c1 aN;obtain⟨a0,al,af⟩:=y.two;go_wp2;go_roundw
   case rel=>exact⟨k+1,ad,by go_num,bs.o,y.o⟩
   case measure=>exact aU
  .obtain rfl:gn=k:=ad;clear ar aK;go_wp2;clear a0 al af;go_loopw [4] (λaX wr=>∃k:Nat,k<=mn/\aX=.int .i64 k/\Ext w wr/\au wr w.heap.size 44 #[.slice GA gn gc,.slice MA mn mc,.slice FA fn fc]) (λaX _=>mn - (intOf aX).toNat)
   case atStart=>exact⟨0,ad,rfl,bd.o,bL.o⟩
   case round=>
    obtain⟨k,aj,rfl,ar,aK⟩:=hrel;clear bd bL;obtain⟨bd,bL⟩:=aI ar aK;obtain⟨a0,al,af⟩:=aK.two;by_cases cl:k<mn
    .obtain⟨b,o,m,cs,rfl,O,r,N,a8,Z⟩:=(cF.on (Fr.ext ar)).iG rk cl;obtain rfl:=ih.1 N;have c0:=Z 0 _ rfl;have c1:=Z 1 _ rfl;have c2:=Z 2 _ rfl;simp only[JS] at c0;have aN:b<_:=O;obtain⟨nm,re,z⟩:=m;have aZ:=cw.gE _ (JL r);have G:bw nm.data.toList=true:=az.o nm (by simp only[bF,JR,J6];exact .inl (.inr ⟨_,JL r,rfl⟩));have i:=ae (show iS nm=true from G);have bH:=hi G;simp only at aZ c0 c1 c2;have q1:decide (z<0)=false:=by simp;omega
     have cM:decide (z > 64)=false:=by simp;omega
     clear a8 Z r N O ar aK G;go_upto_region 12 with(fail);generalize hV:World.alloc _ _=V;have T:=aY hV;have bs:=ae (bd.trans T);have y:=ae (bL.aj T);have hC:=aF hV;have bK:=ae hC;clear hV a0 al af c0 c1 c2 aN bd bL T;obtain⟨a0,al,af⟩:=hC.two;clear hC;go_wp2_with(fail);refine(gz nm _ bH).mono ?_;rintro e aL ⟨rfl,L⟩;rw[i.o];have aT:=ae (bs.trans L);have bt:=ae (y.aj L);have u:=bK.aj L;clear L a0 al af;obtain⟨a0,al,af⟩:=u.two;clear u
     cases re with
     | false=>
      exact FG
     | true=>
      obtain rfl:z=0:=aZ.2.2 rfl;exact FG
    .obtain rfl:mn=k:=ad;clear ar aK;go_wp2;clear a0 al af;go_loopw [6] (λaX wr=>∃k:Nat,k<=fn/\aX=.int .i64 k/\Ext w wr/\au wr w.heap.size 44 #[.slice GA gn gc,.slice MA mn mc,.slice FA fn fc]) (λaX _=>fn - (intOf aX).toNat)
     case atStart=>exact⟨0,ad,rfl,bd.o,bL.o⟩
     case round=>
      obtain⟨k,aj,rfl,ar,aK⟩:=hrel;clear bd bL;obtain⟨bd,bL⟩:=aI ar aK;obtain⟨a0,al,af⟩:=aK.two;by_cases a9:k<fn
      .obtain⟨b,o,f,cs,rfl,O,r,N,a8,Z⟩:=(b6.on (Fr.ext ar)).iG oc a9;obtain⟨PA,pn,pc,cW,bn,bc,rfl,b3,bE⟩:=j0 N;have c0:=Z 0 _ rfl;have c1:=Z 1 _ rfl;have c2:=Z 2 _ rfl;simp only[JS] at c0;have aN:b<_:=O;have cI:=JL r;have G:bw f.name.data.toList=true:=az.o f.name (by simp only[bF,JR,J6];exact .inr ⟨_,cI,rfl⟩);have i:=ae (show iS f.name=true from G);have bH:=hi G;have bB:f.params.length=pn:=by rw[<-b3.1,JM]
       have b4:pn<=2:=by have:=(cw.funcs f cI).iN;omega
       have ac:=ae (cw.funcs f cI);have ag:=ae (jL (cw.env cI) f.body 4 _ _ (cw.vars cI) (cw.funcs f cI).body);have fC:=ae (cw.print.src f cI).2.1;clear a8 Z r N O ar aK G bB cI;go_upto_region 18 with(fail);exact zL
      .obtain rfl:fn=k:=ad;have s:=ae (show fU _ (ao _) p GA gn MA mn FA fn from ⟨cO.on (Fr.ext ar),cF.on (Fr.ext ar),b6.on (Fr.ext ar)⟩);clear ar aK;go_wp2_with(fail);refine(sJ p cw.print GA gn gc MA mn mc FA fn fc _ s.o).mono ?_;rintro e cy ⟨rfl,bb⟩;have I:=ae (bd.trans bb);have kc:=run_bytes_of_string (P:=prog) cy 9 64 5 (strOf (aQ (e5 p))) Tryz.underlying9 Tryz.underlying64 Tryz.underlying5;have hlen:(strOf (aQ (e5 p))).size<=262144:=by rw[aM];exact cw.print.len
       have K:=ae (sI cw.o);have an:(strOf (aQ (e5 p))).data.toList=aQ (e5 p):=by simp[strOf]
       generalize hS:strOf (aQ (e5 p))=S at *;have b2:=grownCap_ge cy S.size 0 5;generalize M:grownCap cy S.size 0 5=cap at *;clear bb a0 al af M;go_wp2_with(fail);generalize hV:World.alloc _ _=V;have hT:eG V cy.heap.size 0 cap S:=by
        rw[<-hV];exact wH cy S cap b2 ad _ _
       have T:=aY hV;have aO:=ae (I.trans T);clear hV T kc;refine(we S cy.heap.size 0 cap V.drew (hT.on Kf.drew) hlen).mono ?_;rintro e cJ ⟨A,n,c,rfl,a7,cj,F⟩;have ab:=ae (aO.drew.trans (Fr.of F));rw[show (cd S.data.toList).2.2=0 by rw[an];exact K.o];clear cj F hT;go_wp2;go_ret;exact⟨rfl,ab.o⟩
 ):p:=h
theorem tC(h:p:=by
 exact q4
 ):p:=h
end Bc
open Bc in
theorem E2(p:bC)(hp:nE p)(GA:Kj)(gn gc:Nat)(MA:Kj)(mn mc:Nat)(FA:Kj)(fn fc:Nat)(w:World)(h:fU w (ao w) p GA gn MA mn FA fn) :
  Calls prog 56 #[.agg #[.slice GA gn gc,.slice MA mn mc,.slice FA fn fc]] w λe J=>e=.returned (.bool true)/\Ext w J:=by
 exact tB
end Go.Proofs.YtnigabjngpnbiaaGreat

/- Part 26 of the proof. No condition of its own. -/
import Derived.Test.YtajlmkkidmjgoaaGreatDoorQ22
import Derived.Test.YtajlmkkidmjgoaaGreatDoorQ25
namespace Go.Proofs.YtajlmkkidmjgoaaGreatDoor
open Go.RowKit Go.Proofs.Tryz
set_option maxRecDepth 1000000
set_option maxHeartbeats 25600000
set_option linter.unusedVariables false
variable{H:Nat->Prop}{i:ao}
def Dz(w:World)(p:Prop)(e:Ending)(ab:World):Prop:=∃b:Bool,e=.returned (.bool b)/\(b=true↔p)/\Ext w ab
theorem A8{f g:ao}:f=g↔f.proc=g.proc/\f.pc=g.pc/\f.ints=g.ints/\f.aw=g.aw:=by
 cases f;cases g;simp
namespace Ac
theorem gj{p:Prop}(h:p:=by
 refine cr ?_;generalize ca:World.setCell _ _ _=Y;have J:=jR 0 [.int .i64 g.proc,.int .i64 g.pc,.slice db z cW,.slice KA v kc] aV.2.2 ca;have aM:Ext wr Y:=Fr.low (M:=λb=>¬b<wr.heap.size) (Fr.trans aV.1 (J.2.mono λb O=>ad)) λb O=>ad;have a4:an Y o 139 #[.int .i64 f.proc,.int .i64 f.pc,.slice IA x ic,.slice bo y lc]:=aV.2.1.on J.2 aZ;have dg:an Y gc 139 #[.int .i64 g.proc,.int .i64 g.pc,.slice db z cW,.slice KA v kc]:=J.1;have bY:=aL aM a4 dg;obtain⟨e0,bn,a0⟩:=a4.two;clear f0 c6 e1;obtain⟨f0,c6,e1⟩:=dg.two;have ct:∀{q:Prop},¬q->(l=k->q)->(false=true↔l=k):=λac J=>⟨λh=>(by cases h),λh=>absurd (J h) ac⟩
 have aO:l=k->f=g:=λh=>by have ac:=bV.1;have J:=bV.2.1;rw[h,J] at ac;injection ac with ac;exact ac.symm
 have ah:=ai aO trivial;clear ca J aM a4 dg ct aO;have aB:Ext w Y:=(ay.1.trans bf.1).trans bY.1;have ax:=ae aB;clear aB;by_cases ac:f.proc=g.proc
 case neg=>
  have cA:(f.proc != g.proc)=true:=by simpa using ac
  have aD:=ae ac;clear ac;exact Ed
 have cA:(f.proc != g.proc)=false:=by simpa using ac
 have H1:=ae ac;clear ac;by_cases J:f.pc=g.pc
 case neg=>
  have dh:(f.pc != g.pc)=true:=by simpa using J
  have aD:=ae J;clear J;exact Ed
 have dh:(f.pc != g.pc)=false:=by simpa using J
 have bi:=ae J;clear J;go_wp2_with(fail);have s:=bY.1;refine(sameInts_any IA db x ic z cW f.ints g.ints Y (bV.2.2.1.on (Fr.ext s)) (bV.2.2.2.2.1.on (Fr.ext s)) ad).mono ?_;rintro r aT ⟨rfl,bw⟩;clear s;have a3:=ae (show Ext Y aT from Fr.of bw);clear bw e0 bn a0 f0 c6 e1;obtain⟨e0,bn,a0⟩:=(bY.2.1.aj a3.o).two;obtain⟨f0,c6,e1⟩:=(bY.2.2.aj a3.o).two
 cases aR:decide (f.ints=g.ints) with
 | false=>
  have aD:=ae (of_decide_eq_false aR);clear aR;go_wp2_with(fail);go_ret
  exact⟨false,rfl,⟨λh=>(by cases h),λh=>absurd (by rw[ah.1 h]) aD.o⟩,ax.trans a3.o⟩
 | true=>
  have bI:=ae (of_decide_eq_true aR);clear aR;go_wp2_with(fail);have s:=bY.1.trans a3.o;refine(sameInts_any bo KA y lc v kc f.aw g.aw aT (bV.2.2.2.1.on (Fr.ext s)) (bV.2.2.2.2.2.on (Fr.ext s)) ad).mono ?_;rintro r b4 ⟨rfl,bq⟩;clear s;have bl:=ae (show Ext aT b4 from Fr.of bq);clear bq e0 bn a0 f0 c6 e1
  cases bv:decide (f.aw=g.aw) with
  | false=>
   have aD:=ae (of_decide_eq_false bv);clear bv;go_wp2_with(fail);go_ret
   exact⟨false,rfl,⟨λh=>(by cases h),λh=>absurd (by rw[ah.1 h]) aD.o⟩,(ax.trans a3.o).trans bl.o⟩
  | true=>
   have cq:=ae (of_decide_eq_true bv);clear bv;go_wp2_with(fail);go_roundw
   case rel=>
    have aQ:f=g:=A8.2 ⟨H1.o,bi.o,bI.o,cq.o⟩;refine⟨i+1,by go_num,ad,((bf.1.trans bY.1).trans a3.o).trans bl.o,λj a1=>?_⟩;by_cases G:j=i
    .rw[G,bV.1,bV.2.1,aQ]
    .exact bf.2 j ad
   case measure=>exact aF
 ):p:=h
end Ac
open Ac in
theorem sV(A B:IP)(n c m L:Nat)(l k:List ao)(w:World)(hl:Sl w (av w) A n (l.map gb))(ap:Sl w (av w) B m (k.map gb))(hn:n<=1000000)(H:∀f∈l,f.ints.length<=100000/\f.aw.length<=100000) :
  Calls prog 22 #[.agg #[.slice A n c],.agg #[.slice B m L]] w (Dz w (l=k)):=by
 have cb:l.length=n:=by have:=hl.1;simpa using this
 have ck:k.length=m:=by have:=ap.1;simpa using this
 have b2:=aL cb ck H;have bs:=ai hl ap;clear cb ck H hl ap;go_enter func22,ntmps22;go_upto_region 1 with(fail);generalize ba:World.alloc _ _=W;have aw:=hJ ba;have bU:=fA ba;have bO:=fB ba;have ay:=cK aw bU bO (bs.1.on (Fr.ext aw)) (bs.2.on (Fr.ext aw));obtain⟨aI,aj,af⟩:=bU.two;obtain⟨be,am,aH⟩:=bO.two;clear ba aw bU bO bs;by_cases I:n=m
 case neg=>
  have q1:((n:Int) != (m:Int))=true:=by simp;omega
  have ag:=ae I;clear I;go_wp2_with(fail);go_ret;exact⟨false,rfl,⟨λh=>(by cases h),λh=>absurd (by rw[<-b2.1,<-b2.2.1,h]) ag.o⟩,ay.1⟩
 subst I;have q1:((n:Int) != (n:Int))=false:=by simp
 clear aI aj af be am aH;obtain⟨aI,aj,af⟩:=ay.2.1.two;obtain⟨be,am,aH⟩:=ay.2.2.1.two;go_wp2_with(fail);clear aI aj af be am aH;go_loopw [5] (λci wr=>∃i:Nat,ci=.int .i64 i/\i<=n/\Ext W wr/\∀j,j<i->l[j]?=k[j]?) (λci _=>n - (intOf ci).toNat)
 case atStart=>exact⟨0,rfl,ad,IK,λj a1=>ad⟩
 case round=>
  obtain⟨i,rfl,ak,aw,S⟩:=hrel;have bf:=ai aw S;obtain⟨aI,aj,af⟩:=(ay.2.1.aj aw).two;obtain⟨be,am,aH⟩:=(ay.2.2.1.aj aw).two;by_cases al:i<n
  .obtain⟨b3,cU,f,IA,x,ic,bo,y,lc,rfl,cw,u,c0,c1,c2,c3,Z,a2,aE,b7⟩:=(ay.2.2.2.1.on (Fr.ext aw)).wc al;obtain⟨aN,go,g,db,z,cW,KA,v,kc,rfl,dq,ab,d0,d1,d2,d3,a8,aU,aP,cg⟩:=(ay.2.2.2.2.on (Fr.ext aw)).wc al;have bz:b3<wr.heap.size:=cw;have aK:aN<wr.heap.size:=dq;have H:=b2.2.2 f (Ia u);have aX:x=f.ints.length:=by have:=aE.1;simpa using this.symm
   have U:y=f.aw.length:=by have:=b7.1;simpa using this.symm
   have aW:x<=100000:=ad;have aJ:y<=100000:=ad;have bV:=eU u ab aE b7 aP cg;clear aw S cw dq u ab aE b7 aP cg Z a2 a8 aU H aX U;obtain⟨ws,gp⟩:∃ws,ws=wr.heap.size:=⟨_,rfl⟩
   have ar:b3<ws:=ad;have dc:aN<ws:=ad;have aS:w.heap.size<ws:=ad;have aY:w.heap.size+1<ws:=ad;have N:=ae gp;clear gp;go_upto_region 6 with(fail);refine sU (λb=>¬b<ws) [13] (.free 0 (.held 1 (.free 2 (.free 3 (.held 4 (.free 5 (.held 6 (.free 7 (.free 8 (.held 9 (.pick [10,11] (λi=>bif i == 10 then .pick [11] (λ_=>.pick [12] (λ_=>.pick [13] (λ_=>.stop))) else .pick [10] (λ_=>.pick [12] (λ_=>.pick [13] (λ_=>.stop))))))))))))))) ?_;refine tf ?_;refine rL ?_
   iterate 2 refine tf ?_
   refine rL ?_;refine tf ?_;refine rL ?_
   iterate 2 refine tf ?_
   refine rL ?_;refine lM (P:=?P1) (ops:=?o1) (Q:=?q1) (R:=?r1) (tails:=?t1) (rest:=.pick [12] (λ_=>.pick [13] (λ_=>.stop))) (aa:=?aa) (C:=λ(o gc:Nat) V=>Ext wr V/\an V o 139 #[.int .i64 0,.int .i64 0,.slice none 0 0,.slice none 0 0]/\an V gc 139 #[.int .i64 0,.int .i64 0,.slice none 0 0,.slice none 0 0]/\o≠gc/\wr.heap.size<=o/\wr.heap.size<=gc) (λkey=>?main) ?key
   case main=>
    refine a5 ?_ ?_
    ·
     refine dS ?_;refine aq ?_;refine dS ?_;generalize hV:World.drew (World.alloc _ _)=V;have hC:Ext wr V/\an V wr.heap.size 139 #[.int .i64 0,.int .i64 0,.slice none 0 0,.slice none 0 0]/\an V (wr.heap.size+1) 139 #[.int .i64 0,.int .i64 0,.slice none 0 0,.slice none 0 0]/\wr.heap.size≠wr.heap.size+1/\wr.heap.size<=wr.heap.size/\wr.heap.size<=wr.heap.size+1:=by
      exact Eb
     clear hV;obtain⟨cm,bZ,cC,b5,cd,cX⟩:=hC;generalize bb:wr.heap.size+1=g2 at cC b5 cX ⊢;generalize bT:wr.heap.size=b0 at bZ b5 ⊢;exact key b0 g2 V ⟨cm,bZ,cC,b5,ad,ad⟩
    ·
     refine dS ?_;refine aq ?_;refine dS ?_;generalize hV:World.drew (World.alloc _ _)=V;have hC:Ext wr V/\an V wr.heap.size 139 #[.int .i64 0,.int .i64 0,.slice none 0 0,.slice none 0 0]/\an V (wr.heap.size+1) 139 #[.int .i64 0,.int .i64 0,.slice none 0 0,.slice none 0 0]/\wr.heap.size+1≠wr.heap.size/\wr.heap.size<=wr.heap.size/\wr.heap.size<=wr.heap.size+1:=by
      exact Eb
     clear hV;obtain⟨cm,bZ,cC,b5,cd,cX⟩:=hC;generalize bb:wr.heap.size+1=g2 at cC b5 cX ⊢;generalize bT:wr.heap.size=b0 at bZ b5 ⊢;exact key g2 b0 V ⟨cm,cC,bZ,b5,ad,ad⟩
   intro o gc V ⟨bg,az,T,aZ,aA,a2⟩;obtain⟨e0,bn,a0⟩:=az.two;obtain⟨f0,c6,e1⟩:=T.two;have au:=eU bg az T aZ aA a2;clear bg az T aI aj af be am aH c0 c1 c2 c3 d0 d1 d2 d3;refine aq ?_;refine aG rfl (λK hK=>?_) rfl;go_simp;refine dA hK (((IK.setCell (.inl (show ¬o<ws from by have:=N.o;omega)) _).setCell (.inl (show ¬o<ws from by have:=N.o;omega)) _).setCell (.inl (show ¬o<ws from by have:=N.o;omega)) _ |>.setCell (.inl (show ¬o<ws from by have:=N.o;omega)) _) ?_;clear hK K;refine E8 (λX=>Fr (λb=>¬b<wr.heap.size) wr X/\an X o 139 #[.int .i64 f.proc,.int .i64 f.pc,.slice IA x ic,.slice bo y lc]/\an X gc 139 #[.int .i64 0,.int .i64 0,.slice none 0 0,.slice none 0 0]) ?_ (λX hX=>?_)
   .have ac:=jR 0 [.int .i64 f.proc,.int .i64 f.pc,.slice IA x ic,.slice bo y lc] au.2.1 rfl;refine⟨Fr.trans (au.1.mono λ_ h=>h.elim) (ac.2.mono λb O=>by have:=au.2.2.2.2.1;omega),ac.1,au.2.2.1.on ac.2 (Ne.symm aZ)⟩
   have aV:=ae hX;clear e0 bn a0 f0 c6 e1;obtain⟨f0,c6,e1⟩:=hX.2.2.two;clear hX;exact gY
  .obtain rfl:i=n:=ad;clear aw S;go_wp2_with(fail);go_ret;refine⟨true,rfl,⟨λ_=>?_,λ_=>rfl⟩,ay.1.trans bf.1⟩;apply List.ext_getElem?
   intro j;by_cases a1:j<i
   .exact bf.2 j a1
   .rw[List.getElem?_eq_none (aC b2.1),List.getElem?_eq_none (aC b2.2.1)]
theorem B8{s t:ah}:s=t↔s.fault=t.fault/\s.globals=t.globals/\s.table=t.table/\s.threads=t.threads:=by
 cases s;cases t
 simp only[ah.mk.injEq];constructor
 .rintro⟨ac,J,aR,bv⟩;exact⟨bv,ac,J,aR⟩
 .rintro⟨ac,J,aR,bv⟩;exact⟨J,aR,bv,ac⟩
theorem rsame(s bP:ah)(q o:SV)(w:World)(h:q.Ok w s)(F:o.Ok w bP)(H:Small s) :
  Calls prog 9 #[.agg (q.val s),.agg (o.val bP)] w (Dz w (s=bP)):=by
 obtain⟨GA,gn,gc,TA,tn,tc,HA,hn,hc⟩:=q;obtain⟨L,l,k,y,av,ao,a7,hm,hd⟩:=o;have bT:gn<=1000:=by have ac:=h.at_.g.1;have J:=H.g;rw[Ib] at ac;have aR:s.globals.length=gn:=ac;omega
 have aA:tn<=5000:=by have ac:=h.at_.t.1;have J:=H.t;rw[Ib] at ac;have aR:s.table.length=tn:=ac;omega
 have T:s.threads.length=hn:=by have ac:=h.at_.h.1;rw[Ib] at ac;exact ac
 have ck:bP.threads.length=hm:=by have ac:=F.at_.h.1;rw[Ib] at ac;exact ac
 have bs:=cK h F H T ck;clear h F H T ck;dsimp only[SV.val];go_enter func9,ntmps9;go_upto_region 1 with(fail);generalize ba:World.alloc _ _=W;have aw:=hJ ba;have bU:=fA ba;have bO:=fB ba;have ay:=cK aw bU bO (bs.1.on aw) (bs.2.1.on aw);obtain⟨aI,aj,af⟩:=bU.two;obtain⟨be,am,aH⟩:=bO.two;clear ba aw bU bO;by_cases ac:s.fault=bP.fault
 case neg=>
  have cA:(s.fault != bP.fault)=true:=by simpa using ac
  have aD:=ae ac;clear ac;go_wp2_with(fail);go_ret;exact⟨false,rfl,⟨λh=>(by cases h),λh=>absurd (by rw[h]) aD.o⟩,ay.1⟩
 have cA:(s.fault != bP.fault)=false:=by simpa using ac
 have H1:=ae ac;clear ac;go_wp2_with(fail);refine(sameInts_any GA L gn gc l k s.globals bP.globals W ay.2.2.2.1.at_.g ay.2.2.2.2.at_.g ad).mono ?_;rintro r aT ⟨rfl,bw⟩;have a3:=ae (show Ext W aT from Fr.of bw);clear bw aI aj af be am aH;obtain⟨aI,aj,af⟩:=(ay.2.1.aj a3.o).two;obtain⟨be,am,aH⟩:=(ay.2.2.1.aj a3.o).two
 cases J:decide (s.globals=bP.globals) with
 | false=>
  have aD:=ae (of_decide_eq_false J);clear J;go_wp2_with(fail);go_ret
  exact⟨false,rfl,⟨λh=>(by cases h),λh=>absurd (by rw[h]) aD.o⟩,ay.1.trans a3.o⟩
 | true=>
 have bi:=ae (of_decide_eq_true J);clear J;go_wp2_with(fail);refine(BV TA y tn tc av ao s.table bP.table aT (ay.2.2.2.1.on a3.o).at_.t.holds (ay.2.2.2.2.on a3.o).at_.t.holds ad).mono ?_;rintro r b4 ⟨rfl,bq⟩;have bl:=ae (show Ext W b4 from a3.trans (Fr.of bq));clear bq aI aj af be am aH a3;obtain⟨aI,aj,af⟩:=(ay.2.1.aj bl.o).two;obtain⟨be,am,aH⟩:=(ay.2.2.1.aj bl.o).two
 cases aR:decide (s.table=bP.table) with
 | false=>
  have aD:=ae (of_decide_eq_false aR);clear aR;go_wp2_with(fail);go_ret
  exact⟨false,rfl,⟨λh=>(by cases h),λh=>absurd (by rw[h]) aD.o⟩,ay.1.trans bl.o⟩
 | true=>
 have bI:=ae (of_decide_eq_true aR);clear aR;by_cases I:hn=hm
 case neg=>
  have dh:((hn:Int) != (hm:Int))=true:=by simp;omega
  have aD:=ae I;clear I;go_wp2_with(fail);go_ret;exact⟨false,rfl,⟨λh=>(by cases h),λh=>absurd (by rw[<-bs.2.2.2.1,<-bs.2.2.2.2,h]) aD.o⟩,ay.1.trans bl.o⟩
 subst I;have dh:((hn:Int) != (hn:Int))=false:=by simp
 have dm:hn<=1000:=by have:=bs.2.2.1.h;have:=bs.2.2.2.1;omega
 go_wp2_with(fail);clear aI aj af be am aH;go_loopw [5] (λci wr=>∃i:Nat,ci=.int .i64 i/\i<=hn/\Ext W wr/\∀j,j<i->s.threads[j]?=bP.threads[j]?) (λci _=>hn - (intOf ci).toNat)
 case atStart=>exact⟨0,rfl,ad,bl.o,λj a1=>ad⟩
 case round=>
  obtain⟨i,rfl,ak,aw,S⟩:=hrel;clear bl;have bf:=ai aw S;obtain⟨aI,aj,af⟩:=(ay.2.1.aj aw).two;obtain⟨be,am,aH⟩:=(ay.2.2.1.aj aw).two;by_cases al:i<hn
  .obtain⟨b3,cU,f,FA,x,ic,rfl,cw,u,c0,Z,g⟩:=(ay.2.2.2.1.on aw).at_.h.te al;obtain⟨aN,go,gt,db,z,cW,rfl,dq,ab,d0,a8,bh⟩:=(ay.2.2.2.2.on aw).at_.h.te al;have bz:b3<wr.heap.size:=cw;have aK:aN<wr.heap.size:=dq;have H:=bs.2.2.1.f f (Ia u);have aX:x=f.length:=by have:=g.1;simpa using this.symm
   have aW:x<=1000000:=ad;have bV:=cK u ab g bh H.2;clear aw S cw dq u ab g bh Z a8 H aX;go_upto_region 6 with(fail);refine eB (λ_=>False) [(0,3),(1,0),(2,3),(3,3),(4,0),(5,3),(6,0),(7,3),(8,3),(9,0),(10,2),(11,3)] ?_;refine pf ?_;refine ph ?_
   iterate 2 refine pf ?_
   refine ph ?_;refine pf ?_;refine ph ?_
   iterate 2 refine pf ?_
   refine ph ?_;refine au rfl (λK hK=>?_);go_simp;have bL:Ext wr wr.drew:=IK.drew;refine(sV FA db x ic z cW f gt wr.drew (bV.2.2.1.on (Fr.ext bL)) (bV.2.2.2.1.on (Fr.ext bL)) aW bV.2.2.2.2).mono ?_;rintro r eG ⟨b,rfl,O,aS⟩;have cv:=ae (Fr.aJ aS);have a7:=ae O;clear O aS bL aI aj af be am aH c0 d0;refine dW hK ?_;clear hK K;refine pf ?_;refine aB ?_;have b1:s=bP->f=gt:=λh=>by have ac:=bV.1;have J:=bV.2.1;rw[h,J] at ac;injection ac with ac;exact ac.symm
   have aP:=ae b1;clear b1
   cases b with
   | false=>
    go_wp2_with(fail);go_ret
    exact⟨false,rfl,⟨λh=>(by cases h),λh=>absurd (a7.2 (aP.o h)) (by simp)⟩,(ay.1.trans bf.1).trans cv.o⟩
   | true=>
    go_wp2_with(fail);go_roundw
    case rel=>
     refine⟨i+1,by go_num,ad,bf.1.trans cv.o,λj a1=>?_⟩;by_cases G:j=i
     .rw[G,bV.1,bV.2.1,a7.1 rfl]
     .exact bf.2 j ad
    case measure=>exact aF
  .obtain rfl:i=hn:=ad;clear aw S;go_wp2_with(fail);go_ret;refine⟨true,rfl,⟨λ_=>B8.2 ⟨H1.o,bi.o,bI.o,?_⟩,λ_=>rfl⟩,ay.1.trans bf.1⟩;apply List.ext_getElem?
   intro j;by_cases a1:j<i
   .exact bf.2 j a1
   .rw[List.getElem?_eq_none (aC bs.2.2.2.1),List.getElem?_eq_none (aC bs.2.2.2.2)]
def qS(e:TypeId)(z n:Nat)(xs:List Value)(w:World)(st:Nat)(v1 v2:Value)(F:List Nat):Prop:=
 (st=0/\v1=undef/\v2=undef/\F=[])\/(st=1/\v2=undef/\∃A,v1=.slice A 0 0/\Own w e z A 0 0 [] F)\/(st=2/\∃A c,v2=.slice A n c/\Own w e z A n c xs F)
theorem qS.al{e:TypeId}{z n:Nat}{xs:List Value}{w ab:World}{st:Nat}{v1 v2:Value}{F:List Nat}(h:qS e z n xs w st v1 v2 F)(ap:∀b∈F,ab.heap[b]?=w.heap[b]?):qS e z n xs ab st v1 v2 F:=by
 rcases h with h|⟨ac,J,A,aR,bv⟩|⟨ac,A,c,J,aR⟩
 .exact .inl h
 .exact .inr (.inl ⟨ac,J,A,aR,bv.al ap⟩)
 .exact .inr (.inr ⟨ac,A,c,J,aR.al ap⟩)
structure Ha(W:World)(s:ah)(gn tn hn:Nat)(hx:List Value)(w:World)(g t h:Nat)(b:Bool)(aX bj v10 v11 a c d:Value)(aq ar bN bR:List Nat):Prop where
 ext:Ext W w
 g:qS 3 1 gn (s.globals.map dK) w g bj v10 aq
 t:qS 137 2 tn (s.table.flatMap ca) w t v11 a ar
 h:qS 77 1 hn hx w h c d bN
 o:(b=false/\aX=undef/\bR=[])\/(b=true/\∃G,aX=.pointer (some ⟨G,0,none⟩)/\bR=[G]/\an w G 45 #[.slice none 0 0,.slice none 0 0,.slice none 0 0,.int .i64 0])
 nd:(aq++(ar++(bN++bR))).Nodup
 lo:∀k∈aq++(ar++(bN++bR)),W.heap.size<=k/\k<w.heap.size
section
variable {a:Act} {w:World} {K:Act->World->Prop} {Q:Exit->Act->World->Prop} {dst:Option Nat} {ty:TypeId} {p:String} {be:Array Edge}
end
section
variable {ops:Array Oper} {Q:Exit->Act->World->Prop} {W:World} {s:ah} {gn tn hn gc tc hc:Nat} {GA TA HA:IP} {hx:List Value} {ws:Nat} {aa:Value->Value->Value->Value->Value->Value->Value->Act}
 {p0 eC et g h c d:String} {aI y A e f a b:Array Edge} {t15:TypeId}
theorem Ha.eQ{w ab:World}{F M:List Nat}(aA:Fr (λk=>k∈M) w ab)(al:∀k∈F,k<w.heap.size)(hd:∀k∈F,k∉M):∀k∈F,ab.heap[k]?=w.heap[k]?:=λk ap=>aA.block k (al k ap) (hd k ap)
end
abbrev uF(W w:World)(E:List Nat):Nat->Prop:=λk=>W.heap.size<=k/\k<w.heap.size/\k∉E
structure Gu(W:World)(gs:List Int)(gn m:Nat)(w:World)(a:Nat)(ao v6 aY v10 v11:Value)(E:List Nat):Prop where
 g:(a=0/\E=[]/\qS 3 1 gn (gs.map dK) w 0 ao v6 [])\/(a=1/\qS 3 1 gn (gs.map dK) w 1 ao v6 E)\/(2<=a/\E=[]/\∃F,qS 3 1 gn (gs.map dK) w 2 ao v6 F/\∀k∈F,W.heap.size<=k/\k<w.heap.size)
 o:3<=a->v10=.int .i64 (m:Int)
 t:4<=a->∃A,v11=.slice A m m/\Sl w (uF W w []) A m ((List.replicate m ⟨0,0⟩).map l4)
 e:∀k∈E,W.heap.size<=k/\k<w.heap.size
structure Gv(W:World)(H:Int)(L:Nat)(w:World)(b:Nat)(a c d e g:Value)(E:List Nat):Prop where
 i:1<=b->∃A,a=.slice A L L/\Sl w (uF W w E) A L ((List.replicate L 0).map D.i)/\c=.agg #[.int .i64 H,.int .i64 0,.slice A L L,.slice none 0 0]
 f:2<=b->∃A,d=.slice A 1 1/\Sl w (uF W w E) A 1 ([(⟨H,0,List.replicate L 0,[]⟩:ao)].map gb)/\e=.agg #[.slice A 1 1]
 h:3<=b->∃A,g=.slice A 1 1/\Sl w (uF W w E) A 1 ([[(⟨H,0,List.replicate L 0,[]⟩:ao)]].map ly)
theorem Gu.al{W:World}{gs:List Int}{gn m a:Nat}{w ab:World}{ao v6 aY v10 v11:Value}{E:List Nat}(h:Gu W gs gn m w a ao v6 aY v10 v11 E)(aw:Ext w ab):Gu W gs gn m ab a ao v6 aY v10 v11 E:=by
 have ap:∀k,k<w.heap.size->ab.heap[k]?=w.heap[k]?:=λk ap=>aw.block k ap λh=>h;have hs:=aw.size;refine⟨?_,h.o,λI=>?_,λk ap=>⟨(h.e k ap).1,by have:=(h.e k ap).2;omega⟩⟩
 .rcases h.g with⟨ac,J,aR⟩|⟨ac,J⟩|⟨ac,J,F,aR,bv⟩
  .exact .inl ⟨ac,J,aR.al λk ap=>by simp at ap⟩
  .exact .inr (.inl ⟨ac,J.al λb O=>ap b (h.e b O).2⟩)
  .exact .inr (.inr ⟨ac,J,F,aR.al λb O=>ap b (bv b O).2,λk ap=>⟨(bv k ap).1,by have:=(bv k ap).2;omega⟩⟩)
 .obtain⟨A,ac,J⟩:=h.t I;exact⟨A,ac,(J.al λb O=>ap b O.2.1).mono λb O=>⟨O.1,by have:=O.2.1;omega,O.2.2⟩⟩
theorem Gv.al{W:World}{H:Int}{L b:Nat}{w ab:World}{a c d e g:Value}{E f:List Nat}(h:Gv W H L w b a c d e g E)(hs:w.heap.size<=ab.heap.size)(ap:∀k,W.heap.size<=k->k<w.heap.size->k∉E->ab.heap[k]?=w.heap[k]?/\k∉f):Gv W H L ab b a c d e g f:=by
 have b7:∀b,uF W w E b->ab.heap[b]?=w.heap[b]?:=λb O=>(ap b O.1 O.2.1 O.2.2).1;have hm:∀b,uF W w E b->uF W ab f b:=λb O=>⟨O.1,by have:=O.2.1;omega,(ap b O.1 O.2.1 O.2.2).2⟩
 refine⟨λO=>?_,λO=>?_,λO=>?_⟩
 .obtain⟨A,ac,J,aR⟩:=h.i O;exact⟨A,ac,(J.al b7).mono hm,aR⟩
 .obtain⟨A,ac,J,aR⟩:=h.f O;exact⟨A,ac,(J.al b7).mono hm,aR⟩
 .obtain⟨A,ac,J⟩:=h.h O;exact⟨A,ac,(J.al b7).mono hm⟩
structure RO(P:Nat->Prop)(B:Nat)(w:World)(s:ah)(k:Nat)(fs:List ao)(f:ao)(G:Nat)(q:SV)(O lb lc:Nat)(hx cA:List Value)(IA:IP)(ic:Nat)(bo:IP)(c:Nat)(aq ar n:List Nat):Prop where
 th:s.threads[k]?=some (fs++[f])
 gl:q.gn=s.globals.length
 tl:q.tn=s.table.length
 hl:q.hn=s.threads.length
 g:Own w 3 1 q.GA q.gn q.gc (s.globals.map dK) aq
 t:Own w 137 2 q.TA q.tn q.tc (s.table.flatMap ca) ar
 h:Own w 77 1 q.HA q.hn q.hc hx [O]
 mQ:q.HA=some ⟨O,0,none⟩
 pZ:∀j e,j≠k->s.threads[j]?=some e->∃u,hx[j]?=some u/\(ly e).rep w P [u]
 Bh:hx[k]?=some (.slice (some ⟨lb,0,none⟩) (fs.length+1) lc)
 l:Own w 139 4 (some ⟨lb,0,none⟩) (fs.length+1) lc (cA++[.int .i64 f.proc,.int .i64 f.pc,.slice IA f.ints.length ic,.slice bo f.aw.length c]) [lb]
 fr:D.aO w P (fs.map gb) cA
 lk:Sl w P bo f.aw.length (f.aw.map D.i)
 EY:f.aw.length<=c
 i:Own w 3 1 IA f.ints.length ic (f.ints.map dK) n
 o:an w G 45 (q.val s)
 nd:(G::O::lb::(aq++(ar++n))).Nodup
 lo:∀b∈G::O::lb::(aq++(ar++n)),B<=b/\b<w.heap.size
 pb:∀b,P b->b<B
theorem mv{α:Type}{enc:α->D}{w:World}{P:Nat->Prop}:∀(l:List α) (xs:List Value),xs.length=l.length->(∀(j:Nat) (x:α),l[j]?=some x->∃u,xs[j]?=some u/\(enc x).rep w P [u])->D.aO w P (l.map enc) xs
 | [],[],_,_=>aM.2 rfl
 | [],_::_,h,_=>by simp at h
 | _::_,[],h,_=>by simp at h
 | a::l,v::xs,h,hp=>by
  obtain⟨u,hu,aY⟩:=hp 0 a rfl;simp only[List.getElem?_cons_zero,IE] at hu;subst hu;exact dj.2 ⟨[v],xs,rfl,aY,mv l xs (by simpa using h) λj x hx=>by simpa using hp (j+1) x (by simpa using hx)⟩
section
variable {P:Nat->Prop} {B:Nat} {w ab:World} {s bP:ah} {k:Nat} {fs:List ao} {f S:ao} {G:Nat} {q:SV} {O lb lc:Nat} {hx cA:List Value} {IA:IP} {ic:Nat} {bo:IP} {c:Nat} {aq ar n:List Nat}
theorem RO.G3(h:RO P B w s k fs f G q O lb lc hx cA IA ic bo c aq ar n):q.Is w (λb=>P b\/(B<=b/\b<w.heap.size/\b≠G)) s:=by
 have bq:=h.lo;have U:∀b∈O::lb::(aq++(ar++n)),P b\/(B<=b/\b<w.heap.size/\b≠G):=λb hm=>.inr ⟨(bq b (List.mem_cons_of_mem _ hm)).1,(bq b (List.mem_cons_of_mem _ hm)).2,λhe=>(List.nodup_cons.1 h.nd).1 (he▸hm)⟩;have e:∀b,P b->P b\/(B<=b/\b<w.heap.size/\b≠G):=λb O=>.inl O;refine⟨⟨?_,?_,?_⟩,h.g.cap,h.t.cap,h.h.cap⟩
 .exact h.g.sl (cB _) (by rw[Ib];exact h.gl.symm) λb O=>U b (by simp[O])
 .exact h.t.sl (eH _) (by rw[Ib];exact h.tl.symm) λb O=>U b (by simp[O])
 .have aX:hx.length=s.threads.length:=by have:=h.h.row.1;rw[Nat.mul_one] at this;rw[this];exact h.hl
  refine h.h.sl (mv _ _ aX λj x a1=>?_) (by rw[Ib];exact h.hl.symm) λb O=>U b (by simp[ID.1 O]);by_cases m:j=k
  .subst m;have:=h.th.symm.trans a1;injection this with this;subst this;refine⟨_,h.Bh,eW.2 ⟨_,_,_,rfl,h.l.cap,h.l.sl ?_ (by simp) λb O=>U b (by simp[ID.1 O])⟩⟩;rw[Ig];exact D.cu (D.bL e _ _ h.fr) (D.bo.2 (iQ.2 ⟨_,_,_,_,_,_,rfl,h.i.cap,h.EY,h.i.sl (cB _) (by simp) λb O=>U b (by simp[O]),h.lk.mono e⟩))
  .obtain⟨u,hu,aY⟩:=h.pZ j x m a1;exact⟨u,hu,D.aH e _ _ aY⟩
theorem RO.is(h:RO P B w s k fs f G q O lb lc hx cA IA ic bo c aq ar n):q.Is w (λb=>P b\/(B<=b/\b<w.heap.size)) s:=h.G3.mono λb O=>O.imp id λO=>⟨O.1,O.2.1⟩
theorem RO.GG(h:RO P B w s k fs f G q O lb lc hx cA IA ic bo c aq ar n){g:Nat}(aM:g∈lb::(aq++(ar++n)))(bT:ab.heap.size=w.heap.size)(ap:∀b,b≠g->ab.heap[b]?=w.heap[b]?)
  (r:∀j,j≠k->bP.threads[j]?=s.threads[j]?) (bi:bP.threads[k]?=some (fs++[S])) (cg:bP.globals.length=s.globals.length) (cr:bP.table.length=s.table.length) (T:bP.threads.length=s.threads.length) (E:bP.fault=s.fault) (b7:S.aw=f.aw)
  (bS:Own ab 3 1 q.GA q.gn q.gc (bP.globals.map dK) aq) (a5:Own ab 137 2 q.TA q.tn q.tc (bP.table.flatMap ca) ar)
  (br:Own ab 139 4 (some ⟨lb,0,none⟩) (fs.length+1) lc (cA++[.int .i64 S.proc,.int .i64 S.pc,.slice IA S.ints.length ic,.slice bo S.aw.length c]) [lb])
  (hI:Own ab 3 1 IA S.ints.length ic (S.ints.map dK) n):RO P B ab bP k fs S G q O lb lc hx cA IA ic bo c aq ar n:=by
 have n1:=List.nodup_cons.1 h.nd;have cd:=List.nodup_cons.1 n1.2;have aH:G≠g:=λhe=>n1.1 (by rw[he];exact List.mem_cons_of_mem _ aM);have m:O≠g:=λhe=>cd.1 (by rw[he];exact aM);have cX:B<=g:=(h.lo g (by simp only[Iq] at aM ⊢;exact .inr (.inr aM))).1;have a:∀b,P b->ab.heap[b]?=w.heap[b]?:=λb O=>ap b (aC (h.pb b O));refine {th:=bi,gl:=h.gl.trans cg.symm,tl:=h.tl.trans cr.symm,hl:=h.hl.trans T.symm,g:=bS,t:=a5,h:=h.h.al λb O=>ap b (by rw[ID.1 O];exact m),mQ:=h.mQ,pZ:=λj e a1 d=>?_,Bh:=h.Bh,l:=br,fr:=D.bV a _ _ h.fr,lk:=by rw[b7];exact h.lk.al a,EY:=by rw[b7];exact h.EY,i:=hI,o:=?_,nd:=h.nd,lo:=λb O=>by rw[bT];exact h.lo b O,pb:=h.pb}
 .obtain⟨u,hu,aY⟩:=h.pZ j e a1 ((r j a1).symm.trans d);exact⟨u,hu,D.aT a _ _ aY⟩
 .have:=(ap G aH).trans h.o;unfold SV.val at this ⊢
  rwa [E]
namespace Ap
theorem tL{p:Prop}(h:p:=by
 obtain⟨g,bj,-,-,-,-,hs⟩:=h.l.block ad;obtain rfl:lb=g:=by simpa using bj
 have a:=hs (fs.length*4+1) (.int .i64 v) ad;rw[List.set_append_right _ _ ad,U,Nat.add_sub_cancel_left] at a;exact h.GG (g:=lb) (by simp) (by simp[World.setCell]) (λb O=>aP O) (λj a1=>by simp[Ne.symm a1]) (by simp[al]) rfl rfl (by simp) rfl rfl
  (h.g.al λb O=>aP (hn b (by simp[O]))) (h.t.al λb O=>aP (hn b (by simp[O]))) a (h.i.al λb O=>aP (hn b (by simp[O])))
 ):p:=h
end Ap
open Ap in
theorem RO.pc(h:RO P B w s k fs f G q O lb lc hx cA IA ic bo c aq ar n)(v:Int) :
  RO P B (w.setCell ⟨lb,fs.length*4+1,none⟩ (.int .i64 v)) {s with threads:=s.threads.set k (fs++[{f with pc:=v}])} k fs {f with pc:=v} G q O lb lc hx cA IA ic bo c aq ar n:=by
 have al:=(List.getElem?_eq_some_iff.1 h.th).1;have n1:=List.nodup_cons.1 (List.nodup_cons.1 (List.nodup_cons.1 h.nd).2).2;have hn:∀b∈aq++(ar++n),b≠lb:=λb O he=>n1.1 (he▸O);exact tK
namespace Aq
theorem tL{p:Prop}(h:p:=by
 have Q:k<q.hn:=by rw[h.hl];exact al
 obtain⟨g,bj,-,hl,hc,aA,-⟩:=h.l.block ad;obtain rfl:lb=g:=by simpa using bj
 obtain⟨g2,bu,-,bS,cf,az,-⟩:=h.h.block ad;obtain rfl:O=g2:=by have:=h.mQ.symm.trans bu;simpa using this
 refine⟨hl,bS,aA,az,cf _ _ h.Bh,hc _ _ ?_,hc _ _ ?_,hc _ _ ?_,hc _ _ ?_,Q⟩<;>rw[<-U,List.getElem?_append_right ad]<;>simp
 ):p:=h
end Aq
open Aq in
theorem RO.top(h:RO P B w s k fs f G q O lb lc hx cA IA ic bo c aq ar n):lb<w.heap.size/\O<w.heap.size/\(∀j,w.frozen? ⟨lb,j,none⟩=false)/\(∀j,w.frozen? ⟨O,j,none⟩=false)/\w.cell? ⟨O,k,none⟩=some (.slice (some ⟨lb,0,none⟩) (fs.length+1) lc)/\w.cell? ⟨lb,fs.length*4,none⟩=some (.int .i64 f.proc)/\w.cell? ⟨lb,fs.length*4+1,none⟩=some (.int .i64 f.pc)/\
  w.cell? ⟨lb,fs.length*4+2,none⟩=some (.slice IA f.ints.length ic)/\w.cell? ⟨lb,fs.length*4+3,none⟩=some (.slice bo f.aw.length c)/\k<q.hn:=by
 have al:=(List.getElem?_eq_some_iff.1 h.th).1;exact tK
theorem RO.ints(h:RO P B w s k fs f G q O lb lc hx cA IA ic bo c aq ar n){j:Nat}(a1:j<f.ints.length):∃H,IA=some ⟨H,0,none⟩/\H<w.heap.size/\w.frozen? ⟨H,j,none⟩=false/\(∃u,w.cell? ⟨H,j,none⟩=some u)/\H≠G/\B<=H/\
  ∀v,RO P B (w.setCell ⟨H,j,none⟩ (.int .i64 v)) {s with threads:=s.threads.set k (fs++[{f with ints:=f.ints.set j v}])} k fs {f with ints:=f.ints.set j v} G q O lb lc hx cA IA ic bo c aq ar n:=by
 have al:=(List.getElem?_eq_some_iff.1 h.th).1;obtain⟨H,c8,rfl,cc,hc,aA,hs⟩:=h.i.block ad;have hm:H∈G::O::lb::(aq++(ar++[H])):=by simp
 have n1:=List.nodup_cons.1 h.nd;have hn:∀b∈lb::(aq++ar),b≠H:=by
  have:=fF (A:=lb::(aq++ar)) (B:=[]) (x:=H) (by simpa[Io] using (List.nodup_cons.1 n1.2).2);simpa using this
 refine⟨H,c8,cc,aA j,⟨_,hc j (dK f.ints[j]) (by simp[a1])⟩,λhe=>n1.1 (by rw[he];simp),(h.lo H hm).1,λv=>?_⟩;have a:=hs j (.int .i64 v) ad;refine h.GG (g:=H) (by simp) (by simp[World.setCell]) (λb O=>aP O) (λj a1=>by simp[Ne.symm a1]) (by simp[al]) rfl rfl (by simp) rfl rfl
  (h.g.al λb O=>aP (hn b (by simp[O]))) (h.t.al λb O=>aP (hn b (by simp[O]))) ?_ ?_
 .simp only[List.length_set];exact h.l.al λb O=>aP (hn b (by simp[ID.1 O]))
 .simp only[List.length_set];rw[o5];exact a
theorem RO.dw(h:RO P B w s k fs f G q O lb lc hx cA IA ic bo c aq ar n){j:Nat}(a1:j<q.gn):∃aN,q.GA=some ⟨aN,0,none⟩/\aN<w.heap.size/\w.frozen? ⟨aN,j,none⟩=false/\(∃u,w.cell? ⟨aN,j,none⟩=some u)/\aN≠G/\B<=aN/\
  ∀v,RO P B (w.setCell ⟨aN,j,none⟩ (.int .i64 v)) {s with globals:=s.globals.set j v} k fs f G q O lb lc hx cA IA ic bo c aq ar n:=by
 obtain⟨aN,I,rfl,cg,hc,aA,hs⟩:=h.g.block ad;have hm:aN∈G::O::lb::([aN]++(ar++n)):=by simp
 have n1:=List.nodup_cons.1 h.nd;have hn:∀b∈lb::(ar++n),b≠aN:=by
  have:=fF (A:=[lb]) (B:=ar++n) (x:=aN) (by simpa using (List.nodup_cons.1 n1.2).2);simpa using this
 have bf:j<s.globals.length:=by rw[<-h.gl];exact a1
 refine⟨aN,I,cg,aA j,⟨_,hc j (dK s.globals[j]) (by simp[bf])⟩,λhe=>n1.1 (by rw[he];simp),(h.lo aN hm).1,λv=>?_⟩;have a:=hs j (.int .i64 v) ad;rw[<-show (.int .i64 v:Value)=.int .i64 v from rfl] at a;refine h.GG (g:=aN) (by simp) (by simp[World.setCell]) (λb O=>aP O) (λ_ _=>rfl) h.th (by simp) rfl rfl rfl rfl
  ?_ (h.t.al λb O=>aP (hn b (by simp[O]))) (h.l.al λb O=>aP (hn b (by simp[ID.1 O]))) (h.i.al λb O=>aP (hn b (by simp[O])))
 show Own _ 3 1 q.GA q.gn q.gc ((s.globals.set j v).map dK) [aN]
 rw[o5];exact a
end
section
variable {P:Nat->Prop} {B:Nat} {w ab X:World} {s bP:ah} {k:Nat} {fs:List ao} {f S:ao} {G:Nat} {q:SV} {O lb lc:Nat} {hx cA:List Value} {IA:IP} {ic:Nat} {bo:IP} {c:Nat} {aq ar n:List Nat}
theorem RO.sep(h:RO P B w s k fs f G q O lb lc hx cA IA ic bo c aq ar n):G≠O/\G≠lb/\O≠lb/\(∀b∈aq++(ar++n),b≠G/\b≠O/\b≠lb)/\∀b,P b->b<w.heap.size/\b≠G/\b≠O/\b≠lb:=by
 have n1:=List.nodup_cons.1 h.nd;have cd:=List.nodup_cons.1 n1.2;have bY:=List.nodup_cons.1 cd.2;refine⟨λhe=>n1.1 (by rw[he];simp),λhe=>n1.1 (by rw[he];simp),λhe=>cd.1 (by rw[he];simp),λb hm=>⟨λhe=>n1.1 (he▸?_),λhe=>cd.1 (he▸?_),λhe=>bY.1 (he▸hm)⟩,λb hm=>?_⟩
 .exact List.mem_cons_of_mem _ (List.mem_cons_of_mem _ hm)
 .exact List.mem_cons_of_mem _ hm
 .have ac:=h.pb b hm;have J:=h.lo G (by simp);have aR:=h.lo O (by simp);have bv:=h.lo lb (by simp);omega
theorem RO.fin(h:RO P B w s k fs f G q O lb lc hx cA IA ic bo c aq ar n)(bT:w.heap.size<=X.heap.size)(ap:∀b,b<w.heap.size->b≠O->b≠lb->X.heap[b]?=w.heap[b]?){T:List ao}{v:Value}
  (uj:Own X 77 1 q.HA q.hn q.hc (hx.set k v) [O]) (bC:(ly T).rep X (λb=>P b\/(B<=b/\b<X.heap.size)) [v]) :
  q.Is X (λb=>P b\/(B<=b/\b<X.heap.size)) {s with threads:=s.threads.set k T}/\an X G 45 (q.val s):=by
 obtain⟨d1,d2,d3,C,A⟩:=h.sep;have bq:=h.lo;have U:∀b∈G::O::lb::(aq++(ar++n)),P b\/(B<=b/\b<X.heap.size):=λb O=>.inr ⟨(bq b O).1,by have:=(bq b O).2;omega⟩;have z:∀b∈aq++(ar++n),X.heap[b]?=w.heap[b]?:=λb O=>ap b (bq b (List.mem_cons_of_mem _ (List.mem_cons_of_mem _ (List.mem_cons_of_mem _ O)))).2 (C b O).2.1 (C b O).2.2;have a:∀b,P b->X.heap[b]?=w.heap[b]?:=λb O=>ap b (A b O).1 (A b O).2.2.1 (A b O).2.2.2;have e:∀b,P b->P b\/(B<=b/\b<X.heap.size):=λb O=>.inl O;have aX:hx.length=s.threads.length:=by have:=h.h.row.1;rw[Nat.mul_one] at this;rw[this];exact h.hl
 have al:=(List.getElem?_eq_some_iff.1 h.th).1;refine⟨⟨⟨?_,?_,?_⟩,h.g.cap,h.t.cap,h.h.cap⟩,(ap G (bq G (by simp)).2 d1 d2).trans h.o⟩
 .exact(h.g.al λb O=>z b (by simp[O])).sl (cB _) (by rw[Ib];exact h.gl.symm) λb O=>U b (by simp[O])
 .exact(h.t.al λb O=>z b (by simp[O])).sl (eH _) (by rw[Ib];exact h.tl.symm) λb O=>U b (by simp[O])
 .refine uj.sl (mv _ _ (by simpa using aX) λj x a1=>?_) (by simp only[Ib,List.length_set];exact h.hl.symm) λb O=>U b (by simp[ID.1 O]);by_cases m:j=k
  .subst m;rw[List.getElem?_set_self al] at a1;injection a1 with a1;subst a1;exact⟨v,List.getElem?_set_self ad,bC⟩
  .rw[List.getElem?_set_ne (Ne.symm m)] at a1;obtain⟨u,hu,aY⟩:=h.pZ j x m a1;exact⟨u,by rw[List.getElem?_set_ne (Ne.symm m)];exact hu,D.aH e _ _ (D.aT a _ _ aY)⟩
theorem RO.uj(h:RO P B w s k fs f G q O lb lc hx cA IA ic bo c aq ar n)(v:Value):Own (w.setCell ⟨O,k,none⟩ v) 77 1 q.HA q.hn q.hc (hx.set k v) [O]:=by
 have al:=(List.getElem?_eq_some_iff.1 h.th).1;have Q:k<q.hn:=by rw[h.hl];exact al
 obtain⟨g2,bu,-,-,-,-,hs⟩:=h.h.block ad;obtain rfl:O=g2:=by have:=h.mQ.symm.trans bu;simpa using this
 exact hs k v ad
namespace Ar
theorem tL{p:Prop}(h:p:=by
 have hc:=h.l.cap;have hl:=(h.l.shorter (m:=fs.length) ad ad).al (ab:=X) λb O=>y b (by rw[ID.1 O];exact Ne.symm d3);rw[List.take_append_of_le_length ad,Ih ad] at hl;refine h.fin ad (λb _ ac _=>y b ac) (by rw[<-hX];exact h.uj _) (eW.2 ⟨_,fs.length,lc,rfl,ad,hl.sl (D.bL (λb O=>.inl O) _ _ (D.bV (λb O=>y b (A b O).2.2.1) _ _ h.fr)) (by simp) λb aX=>.inr ?_⟩);rw[ID.1 aX,b9];exact h.lo lb (by simp)
 ):p:=h
end Ar
open Ar in
theorem RO.drop(h:RO P B w s k fs f G q O lb lc hx cA IA ic bo c aq ar n)(hX:w.setCell ⟨O,k,none⟩ (.slice (some ⟨lb,0,none⟩) fs.length lc)=X) :
  q.Is X (λb=>P b\/(B<=b/\b<X.heap.size)) {s with threads:=s.threads.set k fs}/\an X G 45 (q.val s):=by
 obtain⟨d1,d2,d3,C,A⟩:=h.sep;have b9:X.heap.size=w.heap.size:=by rw[<-hX];simp[World.setCell]
 have y:∀b,b≠O->X.heap[b]?=w.heap[b]?:=λb O=>by rw[<-hX];exact aP O
 exact tK
theorem RO.push(h:RO P B w s k fs f G q O lb lc hx cA IA ic bo c aq ar n){cs:List Value}(bj:(gb i).rep w H cs)(r:∀b,H b->B<=b/\b<w.heap.size/\b≠O/\b≠lb)
  {aE:IP} {L:Nat} {aT:World} (aY:Own aT 139 4 aE (fs.length+2) L (cA++[.int .i64 f.proc,.int .i64 f.pc,.slice IA f.ints.length ic,.slice bo f.aw.length c]++cs) (bt aE (fs.length+2) L))
  (a1:Fr (λb=>b=lb) w aT) (d:∀b∈bt aE (fs.length+2) L,b=lb\/(w.heap.size<=b/\b<aT.heap.size)) (hX:aT.setCell ⟨O,k,none⟩ (.slice aE (fs.length+2) L)=X) :
  q.Is X (λb=>P b\/(B<=b/\b<X.heap.size)) {s with threads:=s.threads.set k (fs++[f]++[i])}/\an X G 45 (q.val s):=by
 obtain⟨d1,d2,d3,C,A⟩:=h.sep;have bz:=a1.size;have b9:X.heap.size=aT.heap.size:=by rw[<-hX];simp[World.setCell]
 have y:∀b,b<w.heap.size->b≠O->b≠lb->X.heap[b]?=w.heap[b]?:=λb hl ac J=>by rw[<-hX];exact(aP ac).trans (a1.block b hl J)
 have T:=(h.lo O (by simp)).2;have g:∀b∈bt aE (fs.length+2) L,b≠O:=λb aX=>by
  rcases d b aX with ac|ac
  .rw[ac];exact Ne.symm d3
  .omega
 have v:=aY.al (ab:=X) λb aX=>by rw[<-hX];exact aP (g b aX)
 have a:∀b,P b->X.heap[b]?=w.heap[b]?:=λb O=>y b (A b O).1 (A b O).2.2.1 (A b O).2.2.2;have e:∀b,P b->P b\/(B<=b/\b<X.heap.size):=λb O=>.inl O;have U:∀b∈G::O::lb::(aq++(ar++n)),P b\/(B<=b/\b<X.heap.size):=λb O=>.inr ⟨(h.lo b O).1,by have:=(h.lo b O).2;omega⟩;have ak:=h.i.al (ab:=X) λb O=>y b (h.lo b (by simp[O])).2 (C b (by simp[O])).2.1 (C b (by simp[O])).2.2;have uj:Own X 77 1 q.HA q.hn q.hc (hx.set k (.slice aE (fs.length+2) L)) [O]:=by
  have ac:Own aT 77 1 q.HA q.hn q.hc hx [O]:=h.h.al λb aX=>a1.block b (by rw[ID.1 aX];exact T) (by rw[ID.1 aX];exact d3);have al:=(List.getElem?_eq_some_iff.1 h.th).1;have Q:k<q.hn:=by rw[h.hl];exact al
  obtain⟨g2,bu,-,-,-,-,hs⟩:=ac.block ad;obtain rfl:O=g2:=by have:=h.mQ.symm.trans bu;simpa using this
  rw[<-hX];exact hs k _ ad
 refine h.fin ad y uj (eW.2 ⟨_,_,_,rfl,v.cap,v.sl ?_ (by simp) λb aX=>?_⟩)
 .rw[Ig,Ig];refine D.cu (D.cu (D.bL e _ _ (D.bV a _ _ h.fr)) (D.bo.2 (iQ.2 ⟨_,_,_,_,_,_,rfl,h.i.cap,h.EY,ak.sl (cB _) (by simp) λb O=>U b (by simp[O]),(h.lk.al a).mono e⟩))) (D.bo.2 ?_);exact D.aH (λb O=>.inr (⟨(r b O).1,by have:=(r b O).2.1;omega⟩:B<=b/\b<X.heap.size)) _ _ (D.aT (λb O=>y b (r b O).2.1 (r b O).2.2.1 (r b O).2.2.2) _ _ bj)
 .rcases d b aX with ac|ac
  .rw[ac];exact U lb (by simp)
  .have:=(h.lo O (by simp));exact .inr ⟨ad,ad⟩
end
section
variable {P:Nat->Prop} {B:Nat} {w ab X:World} {s bP:ah} {k:Nat} {fs:List ao} {f S:ao} {G:Nat} {q:SV} {O lb lc:Nat} {hx cA:List Value} {IA:IP} {ic:Nat} {bo:IP} {c:Nat} {aq ar n:List Nat}
theorem RO.Gp(h:RO P B w s k fs f G q O lb lc hx cA IA ic bo c aq ar n){PT:Nat->Prop}{aE:IP}{a0 L:Nat}{T:List cQ}(a5:Sl w PT aE a0 (T.map l4))(hn:a0<=L)(a:∀b,PT b->P b\/(B<=b/\b<w.heap.size/\b≠G))(hX:w.setCell ⟨G,1,none⟩ (.slice aE a0 L)=X):
  let o:SV:=⟨q.GA,q.gn,q.gc,aE,a0,L,q.HA,q.hn,q.hc⟩
  let bP:ah:={s with table:=T}
  o.Is X (λb=>P b\/(B<=b/\b<X.heap.size)) bP/\an X G 45 (o.val bP):=by
 intro o bP;have b9:X.heap.size=w.heap.size:=by rw[<-hX];simp[World.setCell]
 have ap:∀b,(P b\/(B<=b/\b<w.heap.size/\b≠G))->X.heap[b]?=w.heap[b]?:=λb hm=>by
  rw[<-hX];refine aP ?_;rcases hm with hm|hm
  .exact(h.sep.2.2.2.2 b hm).2.1
  .exact hm.2.2
 have ak:=h.G3.al ap;have hm:∀b,(P b\/(B<=b/\b<w.heap.size/\b≠G))->P b\/(B<=b/\b<X.heap.size):=λb O=>O.imp id λO=>⟨O.1,by rw[b9];exact O.2.1⟩
 refine⟨⟨⟨ak.at_.g.mono hm,(a5.al λb O=>ap b (a b O)).mono λb O=>hm b (a b O),ak.at_.h.mono hm⟩,ak.gc,hn,ak.hc⟩,?_⟩;rw[<-hX];exact h.o.aI 1 _
theorem RO.start(h:RO P B w s k fs f G q O lb lc hx cA IA ic bo c aq ar n){c0 c1 c2 c3:Value}(bj:(gb i).rep w H [c0,c1,c2,c3])(r:∀b,H b->B<=b/\b<w.heap.size/\b≠O/\b≠G)
  {aO aT:World} (aa:w.alloc (.cells #[c0,c1,c2,c3] 139)=aO) {aE:IP} {L:Nat}
  (aY:Own aT 77 1 aE (q.hn+1) L (hx++[.slice (some ⟨w.heap.size,0,none⟩) 1 1]) (bt aE (q.hn+1) L)) (aA:Fr (λb=>b=O) aO aT) (d:∀b∈bt aE (q.hn+1) L,b=O\/(aO.heap.size<=b/\b<aT.heap.size))
  (hX:aT.setCell ⟨G,2,none⟩ (.slice aE (q.hn+1) L)=X) :
  let o:SV:=⟨q.GA,q.gn,q.gc,q.TA,q.tn,q.tc,aE,q.hn+1,L⟩
  let bP:ah:={s with threads:=s.threads++[[i]]}
  o.Is X (λb=>P b\/(B<=b/\b<X.heap.size)) bP/\an X G 45 (o.val bP):=by
 intro o bP;obtain⟨d1,d2,d3,C,A⟩:=h.sep;have aJ:aO.heap.size=w.heap.size+1:=by rw[<-aa];simp
 have ag:=bm aa;have F:=aU aa;have bz:=aA.size;have b9:X.heap.size=aT.heap.size:=by rw[<-hX];simp[World.setCell]
 have cJ:=h.lo G (by simp);have dm:=h.lo O (by simp);have aM:=h.lo lb (by simp);have y:∀b,b<aO.heap.size->b≠G->b≠O->X.heap[b]?=aO.heap[b]?:=λb al aZ aR=>by
  rw[<-hX];exact(aP aZ).trans (aA.block b al aR)
 have E:∀b,b<w.heap.size->b≠G->b≠O->X.heap[b]?=w.heap[b]?:=λb al aZ aR=>(y b ad aZ aR).trans (ag.block b al λh=>h);have a:∀b,P b->X.heap[b]?=w.heap[b]?:=λb hm=>E b (A b hm).1 (A b hm).2.1 (A b hm).2.2.1;have z:∀b∈aq++(ar++n),X.heap[b]?=w.heap[b]?:=λb hm=>E b (h.lo b (List.mem_cons_of_mem _ (List.mem_cons_of_mem _ (List.mem_cons_of_mem _ hm)))).2 (C b hm).1 (C b hm).2.1;have e:∀b,P b->P b\/(B<=b/\b<X.heap.size):=λb hm=>.inl hm;have U:∀b∈G::O::lb::(aq++(ar++n)),P b\/(B<=b/\b<X.heap.size):=λb hm=>.inr ⟨(h.lo b hm).1,by have:=(h.lo b hm).2;omega⟩;have bw:an X w.heap.size 139 #[c0,c1,c2,c3]:=(y _ ad ad ad).trans F;have b7:(gb i).rep X (λb=>P b\/(B<=b/\b<X.heap.size)) [c0,c1,c2,c3]:=D.aH (λb hm=>.inr (⟨(r b hm).1,by have:=(r b hm).2.1;omega⟩:B<=b/\b<X.heap.size)) _ _ (D.aT (λb hm=>E b (r b hm).2.1 (r b hm).2.2.2 (r b hm).2.2.1) _ _ bj);have b8:Sl X (λb=>P b\/(B<=b/\b<X.heap.size)) (some ⟨w.heap.size,0,none⟩) 1 ([i].map gb):=⟨rfl,λ_=>⟨w.heap.size,0,[c0,c1,c2,c3],rfl,.inr ⟨ad,ad⟩,by simp only[Ie,Iy];exact D.bo.2 b7,λj u hu=>by
  rw[It,bw.cell];simpa using hu⟩⟩
 have g:∀b∈bt aE (q.hn+1) L,b≠G:=λb hm=>by
  rcases d b hm with ac|ac
  .rw[ac];exact Ne.symm d1
  .omega
 have v:=aY.al (ab:=X) λb hm=>by rw[<-hX];exact aP (g b hm)
 have hl:=h.l.al (ab:=X) λb hm=>by rw[ID.1 hm];exact E lb aM.2 (Ne.symm d2) (Ne.symm d3)
 have ak:=h.i.al (ab:=X) λb hm=>z b (by simp[hm]);have aX:hx.length=s.threads.length:=by have:=h.h.row.1;rw[Nat.mul_one] at this;rw[this];exact h.hl
 refine⟨⟨⟨?_,?_,?_⟩,h.g.cap,h.t.cap,v.cap⟩,?_⟩
 .exact(h.g.al λb hm=>z b (by simp[hm])).sl (cB _) (by rw[Ib];exact h.gl.symm) λb hm=>U b (by simp[hm])
 .exact(h.t.al λb hm=>z b (by simp[hm])).sl (eH _) (by rw[Ib];exact h.tl.symm) λb hm=>U b (by simp[hm])
 .refine v.sl (l:=(s.threads++[[i]]).map ly) ?_ (by simp[h.hl]) λb hm=>?_
  .rw[Ig];refine D.cu (mv _ _ aX λj x a1=>?_) (D.bo.2 (eW.2 ⟨_,1,1,rfl,Hx _,b8⟩));by_cases m:j=k
   .subst m;have:=h.th.symm.trans a1;injection this with this;subst this;refine⟨_,h.Bh,eW.2 ⟨_,_,_,rfl,h.l.cap,hl.sl ?_ (by simp) λb hm=>U b (by simp[ID.1 hm])⟩⟩;rw[Ig];exact D.cu (D.bL e _ _ (D.bV a _ _ h.fr)) (D.bo.2 (iQ.2 ⟨_,_,_,_,_,_,rfl,h.i.cap,h.EY,ak.sl (cB _) (by simp) λb hm=>U b (by simp[hm]),(h.lk.al a).mono e⟩))
   .obtain⟨u,hu,aY⟩:=h.pZ j x m a1;exact⟨u,hu,D.aH e _ _ (D.aT a _ _ aY)⟩
  .rcases d b hm with ac|ac
   .rw[ac];exact U O (by simp)
   .exact .inr ⟨ad,ad⟩
 .have:=(h.o.aj ag).on aA d1;rw[<-hX];exact this.aI 2 _
end
theorem SV.Is.Gl{P:Nat->Prop}{w V:World}{s:ah}{q:SV}(h:q.Is w P s)(U:∀b,P b->b<w.heap.size)(aw:Ext w V):q.Is V P s:=h.al λb O=>aw.block b (U b O) λh=>h
theorem RO.aj{P:Nat->Prop}{B:Nat}{w ab:World}{s:ah}{k:Nat}{fs:List ao}{f:ao}{G:Nat}{q:SV}{O lb lc:Nat}{hx cA:List Value}{IA:IP}{ic:Nat}{bo:IP}{c:Nat}{aq ar n:List Nat}(h:RO P B w s k fs f G q O lb lc hx cA IA ic bo c aq ar n)(aw:Ext w ab):RO P B ab s k fs f G q O lb lc hx cA IA ic bo c aq ar n:=by
 have ap:∀b,b<w.heap.size->ab.heap[b]?=w.heap[b]?:=λb O=>aw.block b O λh=>h;have al:∀b∈G::O::lb::(aq++(ar++n)),ab.heap[b]?=w.heap[b]?:=λb O=>ap b (h.lo b O).2;have aS:=(h.lo G (by simp))
 have a:∀b,P b->ab.heap[b]?=w.heap[b]?:=λb O=>ap b (aC (h.pb b O));refine {th:=h.th,gl:=h.gl,tl:=h.tl,hl:=h.hl,g:=h.g.al λb O=>al b (by simp[O]),t:=h.t.al λb O=>al b (by simp[O]),h:=h.h.al λb O=>al b (by simp[ID.1 O]),mQ:=h.mQ,pZ:=λj e a1 d=>?_,Bh:=h.Bh,l:=h.l.al λb O=>al b (by simp[ID.1 O]),fr:=D.bV a _ _ h.fr,lk:=h.lk.al a,EY:=h.EY,i:=h.i.al λb O=>al b (by simp[O]),o:=h.o.aj aw,nd:=h.nd,lo:=λb O=>⟨(h.lo b O).1,Hy (h.lo b O).2 aw.size⟩,pb:=h.pb};obtain⟨u,hu,aY⟩:=h.pZ j e a1 d;exact⟨u,hu,D.aT a _ _ aY⟩
def Ez(w:World)(s:ah)(m:Nat)(e:Ending)(ab:World):Prop:=∃q:SV,e=.returned (.tuple #[.agg (q.val s),.int .i64 (m:Int)])/\q.Is ab (λk=>w.heap.size<=k/\k<ab.heap.size) s/\Ext w ab
theorem Fs(u:ax)(l:List Int)(t:Int)(s:ah):fL u s (l++[t])=(bs u (fL u s l) t).1:=by rw[je];rfl
theorem Ft(u:ax)(l:List Int)(t:Int)(s:ah):(dC u s (l++[t])).length=(dC u s l).length+(if (bs u (fL u s l) t).2 then 1 else 0):=by
 rw[kp,Hz];congr 1
 show ((if (bs u (fL u s l) t).2 then [t] else [])++[]).length=_
 cases (bs u (fL u s l) t).2<;>rfl
abbrev Hp(p:UV)(u:ax)(q:SV)(s:ah)(A:IP)(n c:Nat):Array Value:=#[.slice p.GA p.gn p.gc,.slice p.MA p.mn p.mc,.slice p.PA p.pn p.pc,.int .i64 u.main,.slice q.GA q.gn q.gc,.slice q.TA q.tn q.tc,.slice q.HA q.hn q.hc,.int .i64 s.fault,.slice A n c]
structure r6(S w:World)(p:UV)(u:ax)(g:Nat)(q:SV)(A:IP)(n c:Nat)(F:List Nat)(s:ah)(l:List Int):Prop where
 ext:Ext S w
 lo:S.heap.size<=g
 blk:an w g 82 (Hp p u q s A n c)
 row:Own w 3 1 A n c (l.map dK) F
 len:l.length=n
 GS:∀b∈F,S.heap.size<=b/\b≠g
 Gl:q.Is w (λb=>S.heap.size<=b/\b<w.heap.size/\b≠g/\b∉F) s
theorem r6.aj{S w ab:World}{p:UV}{u:ax}{g:Nat}{q:SV}{A:IP}{n c:Nat}{F:List Nat}{s:ah}{l:List Int}(h:r6 S w p u g q A n c F s l)(he:Ext w ab):r6 S ab p u g q A n c F s l:=
 ⟨h.ext.trans he,h.lo,h.blk.aj he,h.row.aj he,h.len,h.GS,(h.Gl.al λb O=>he.block b O.2.1 λh=>h).mono λb O=>⟨O.1,Hy O.2.1 he.size,O.2.2⟩⟩
namespace As
theorem fP{p:Prop}(h:p:=by
 generalize cl:World.setCell _ _ _=Z;obtain⟨bB,a6⟩:=jR 4 [.slice aX ar ap,.slice aj E z,.slice bP az bJ,.int .i64 T.fault,.slice A2 (n+1) c2] cH.2.2.2 cl;go_wp2_with(fail);refine bodyPost_end (v:=.tuple #[]) (by simp[results,Tryz.results25,go_sem]) rfl ?_;have al:=H.row.lt;have r:=H.GS;have ak:Fr (λb=>b∈F\/b=g) w Z:=Fr.trans (Fr.trans (k.1.mono λ_ h=>h.elim) (cH.2.1.mono λ_ h=>.inl h)) (a6.mono λ_ h=>.inr h);have aR:=a6.size;have am:=H.ext.size;have bb:∀b∈bt A2 (n+1) c2,b≠g/\S.heap.size<=b/\(b∈F\/X.heap.size<=b):=λb O=>by
  rcases cH.2.2.1 b O with h|h
  .exact⟨(r b h).2,(r b h).1,.inl h⟩
  .exact⟨ad,ad,.inr h.1⟩
 refine⟨rfl,⟨aX,ar,ap,aj,E,z,bP,az,bJ⟩,A2,n+1,c2,bt A2 (n+1) c2,?_,H.lo,bB,?_,?_,λb O=>⟨(bb b O).2.1,(bb b O).1⟩,?_⟩
 .exact Fr.low (M:=λb=>b∈F\/b=g) (Fr.trans (H.ext.mono λ_ h=>h.elim) ak) λb O=>by
   rcases O with O|O
   .exact(r b O).1
   .subst O;exact H.lo
 .rw[Ig];exact cH.1.al λb O=>a6.block b (cH.1.lt b O) (bb b O).1
 .rw[Hz,H.len];rfl
 .refine(k.2.1.al λb O=>?_).mono λb O=>⟨ad,ad,ad,λhc=>?_⟩
  .refine(a6.block b ad ad).trans (cH.2.1.block b O.2 λhc=>?_);have:=al b hc;omega
  .rcases (bb b hc).2.2 with h|h
   .have:=al b h;omega
   .omega
 ):p:=h
theorem gj{p:Prop}(h:p:=by
 refine tf ?_;refine cr ?_;generalize hX:World.setCell _ _ _=X;obtain⟨bQ,bW,bh⟩:=cO (w:=w) [.slice aX ar ap,.slice aj E z,.slice bP az bJ,.int .i64 T.fault] (by rfl) b5 aS gJ hX;have ag:(⟨aX,ar,ap,aj,E,z,bP,az,bJ⟩:SV).Is X (λb=>w.heap.size<=b/\b<X.heap.size) T:=(ac.al λb O=>bh.block b O.2.1 O.2.2).mono λb O=>⟨O.1,by have:=bh.size;have:=O.2.1;omega⟩
 have bq:=H.blk.aj bW;have k:=bF bW ag bq bQ;have b9:=bW.size;obtain⟨bU,aW,bx⟩:=bQ.two;obtain⟨cR,f,J⟩:=bq.two;have aC:a4∉F:=λO=>by have:=H.row.lt a4 O;omega
 have bI:a4≠g:=ad;clear hX b5 aS ac bh bW ag bq bQ
 cases b with
 | false=>
  go_wp2_with(fail);refine bodyPost_end (v:=.tuple #[]) (by simp[results,Tryz.results25,go_sem]) rfl ?_;refine⟨rfl,⟨aA,sm,I,y,av,ao,a7,hm,hd⟩,A,n,c,F,?_⟩;rw[aw.o (by trivial)]
  exact H.aj k.1
 | true=>
  go_upto_region 2 with(fail);refine eB (λb=>b∈F) [(0,3),(1,3),(2,0),(3,3),(4,3),(5,3),(6,0),(7,3),(8,1),(9,1),(10,3),(11,3),(12,2),(13,3),(14,3),(15,2)] ?_
  iterate 2 refine pf ?_
  refine m0 ?_
  iterate 3 refine pf ?_
  refine m0 ?_;refine pf ?_;refine p2 ?_;refine lH (λV=>Ext X V/\an V X.heap.size 3 #[.int .i64 t]/\V.heap.size=X.heap.size+1) ⟨by first|exact((Fr.refl _ X).drew).alloc _|exact((Fr.refl _ X).alloc _).drew,by first|exact IL|exact an.new X.drew _ _,by simp⟩ (λU hU=>?_);have x:=ae hU;clear hU;refine aD rfl (λK hK=>?_);rw[if_pos (by rfl)];refine wM dT (.tmp 26) (.tmp 28) rfl ((H.row.aj k.1).aj x.1) x.2.1 rfl rfl rfl (by simp[Value.oneCell']) ad ad ?_;intro A2 c2 cz b0 g2 cB;refine dA hK (g2) ?_;clear hK K;have cJ:Fr (λb=>b∈F) X cz:=Fr.trans (x.1.mono λ_ h=>h.elim) g2;have cn:=k.2.2.1.on cJ ba;have ay:=cJ.size;have cH:=bF b0 cJ (λb O=>(cB b O).imp id (λh=>(⟨by have:=x.2.2;omega,h.2⟩:X.heap.size<=b/\b<cz.heap.size))) cn;clear b0 g2 cB bU aW bx cR f J;obtain⟨cR,f,J⟩:=cn.two;clear cJ cn
  iterate 2 refine pf ?_
  refine au rfl (λK hK=>?_);go_simp;refine dW hK ?_;clear hK K
  iterate 2 refine pf ?_
  exact fO
 ):p:=h
end As
open As in
theorem BH(u:ax)(N:Nat)(t:Int)(S w:World)(p:UV)(g:Nat)(q:SV)(A:IP)(n c:Nat)(F:List Nat)(s:ah)(l:List Int)(hU:x0 u)(hu:p.Ok S u)(hs:aV u N s)(hN:N<=100000)(hn:n<=1000000)(h:r6 S w p u g q A n c F s l) :
  Calls prog 25 #[.pointer (some ⟨g,0,none⟩),.int .i64 t] w λe ab=>e=.returned (.tuple #[])/\∃o aE a0 L af,r6 S ab p u g o aE a0 L af (bs u s t).1 (l++if (bs u s t).2 then [t] else []):=by
 obtain⟨GA,gn,gc,MA,mn,mc,PA,pn,pc⟩:=p;obtain⟨aA,sm,I,y,av,ao,a7,hm,hd⟩:=q;have bv:=aL hU hs (hu.on h.ext);have H:=ae h;obtain⟨cR,f,G⟩:=h.blk.two;have ba:g∉F:=λO=>(h.GS g O).2 rfl;have bw:∃(b:Bool) (T:ah),bs u s t=(T,b):=⟨_,_,rfl⟩
 obtain⟨b,T,m⟩:=bw;have b1:∀V,Ext w V->Calls prog 45 #[.agg ((⟨GA,gn,gc,MA,mn,mc,PA,pn,pc⟩:UV).val u),.agg ((⟨aA,sm,I,y,av,ao,a7,hm,hd⟩:SV).val s),.int .i64 t] V (dP mF V T b):=by
  intro V hV;have:=mstep u s t N V ⟨GA,gn,gc,MA,mn,mc,PA,pn,pc⟩ ⟨aA,sm,I,y,av,ao,a7,hm,hd⟩ bv.1 bv.2.1 hN (bv.2.2.on hV) ((H.Gl.ok λb O=>O.2.1).on hV)
  rwa [m] at this
 have b7:b=false->T=s:=λO=>by
  have:=jG (u:=u) (s:=s) (t:=t) (by rw[m];exact O)
  rwa [m] at this
 rw[m];obtain⟨aP,aw⟩:=aN b1 b7;clear b1 b7 m h hU hu hs;go_enter func25,ntmps25;go_upto_region 0 with(fail);refine sU (λ_=>False) [14] (.free 0 (.free 1 (.free 2 (.held 3 (.free 4 (.free 5 (.free 6 (.held 7 (.free 8 (.pick [9,13] (λi=>bif i == 9 then .free 10 (.free 11 (.free 12 (.pick [13] (λ_=>.pick [14] (λ_=>.free 15 (.stop)))))) else .pick [9] (λ_=>.free 10 (.free 11 (.free 12 (.pick [14] (λ_=>.free 15 (.stop))))))))))))))))) ?_
 iterate 3 refine tf ?_
 refine th ?_
 iterate 3 refine tf ?_
 refine th ?_;refine tf ?_;refine lM (P:=?pO) (ops:=?F9) (Q:=?Gb) (R:=?Gc) (tails:=?Gh) (rest:=.pick [14] (λ_=>.free 15 (.stop))) (aa:=?FM)
  (C:=λ(a4:Nat) (Y:Value) gm=>Ext w gm/\an gm a4 45 #[.slice none 0 0,.slice none 0 0,.slice none 0 0,.int .i64 0]/\w.heap.size<=a4/\∃o:SV,Y=.agg (o.val T)/\o.Is gm (λb=>w.heap.size<=b/\b<gm.heap.size/\b≠a4) T) (λkey=>?Bx) ?Bm
 case Bx=>
  refine a5 ?_ ?_
  ·
   refine aG rfl (λK hK=>?_) rfl;go_simp;refine(aP.o w.drew (Fr.refl _ w).drew).mono ?_;rintro e aT ⟨o,rfl,j,aJ⟩;refine dA hK (aJ) ?_;clear hK K
   iterate 3 refine tf ?_
   refine aq ?_;refine dS ?_;generalize cl:World.alloc _ _=Z;have e2:=bm cl;have bz:w.heap.size<=aT.heap.size:=aJ.size;have cx:=e2.size;have F:Ext w Z/\an Z aT.heap.size 45 #[.slice none 0 0,.slice none 0 0,.slice none 0 0,.int .i64 0]/\w.heap.size<=aT.heap.size/\∃dq:SV,(Value.agg (o.val T))=.agg (dq.val T)/\dq.Is Z (λb=>w.heap.size<=b/\b<Z.heap.size/\b≠aT.heap.size) T:=
    ⟨(Fr.aJ aJ).trans e2,by rw[<-cl];exact IL,bz,o,rfl,(j.al λb O=>e2.block b (O.elim (λh=>h.elim) λh=>h.2) λh=>h).mono λb O=>by
     have hd:w.drew.heap.size=w.heap.size:=rfl;have:=O.resolve_left λh=>h;omega⟩
   clear cl e2 bz cx j aJ;revert F;generalize aT.heap.size=a4;generalize (Value.agg (o.val T))=Y;intro F;exact key a4 Y _ F
  ·
   refine dS ?_;generalize bd:World.drew (World.alloc _ _)=cb;have e1:=gX bd;have co:=lU bd;have ai:=co.lt;refine aq ?_;refine aG rfl (λK hK=>?_) rfl;go_simp;refine(aP.o cb e1).mono ?_;rintro e aT ⟨o,rfl,j,aJ⟩;refine dA hK (aJ) ?_;clear hK K
   iterate 3 refine tf ?_
   have bz:=aJ.size;have F:Ext w aT/\an aT w.heap.size 45 #[.slice none 0 0,.slice none 0 0,.slice none 0 0,.int .i64 0]/\w.heap.size<=w.heap.size/\∃dq:SV,(Value.agg (o.val T))=.agg (dq.val T)/\dq.Is aT (λb=>w.heap.size<=b/\b<aT.heap.size/\b≠w.heap.size) T:=
    ⟨e1.trans aJ,co.aj aJ,Hx _,o,rfl,j.mono λb O=>by
     have:=O.resolve_left λh=>h;omega⟩
   clear bd e1 co ai bz j aJ;revert F key;generalize (Value.agg (o.val T))=Y;intro key F;exact key w.heap.size Y _ F
 case Bm=>
  rintro a4 Y gm ⟨aS,b5,gJ,⟨aX,ar,ap,aj,E,z,bP,az,bJ⟩,rfl,ac⟩;dsimp only[SV.val];obtain⟨bU,aW,bx⟩:=b5.two;clear cR f;exact gY
end Go.Proofs.YtajlmkkidmjgoaaGreatDoor

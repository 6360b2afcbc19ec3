/- Part 24 of the proof. No condition of its own. -/
import Derived.Test.YtkhnkojkplbioaaGreatQ23
namespace Go.Proofs.YtkhnkojkplbioaaGreat
open Go.RowKit Go.Proofs.Tryz
set_option maxRecDepth 1000000
set_option maxHeartbeats 25600000
set_option linter.unusedVariables false
variable{F F1 F2:List Nat}{xs:List Value}{m n:Nat}{e:TypeId}{v1 v2:Value}{ab:World}
def ix(w:World)(p:Prop)(e:Ending)(ab:World):Prop:=∃b:Bool,e=.returned (.bool b)/\(b=true↔p)/\Ext w ab
theorem uD{f g:ak}:f=g↔f.proc=g.proc/\f.pc=g.pc/\f.ints=g.ints/\f.au=g.au:=by
 cases f;cases g;simp
namespace C6
theorem eU{p:Prop}(h:p:=by
 refine b9 ?_;generalize cu:World.setCell _ _ _=Y;have au:=km 0 [.int .i64 g.proc,.int .i64 g.pc,.slice dg z dc,.slice KA v kc] aQ.2.2 cu;have bn:Ext wr Y:=Fr.low (M:=λb=>¬b<wr.heap.size) (Fr.trans aQ.1 (au.2.mono λb O=>ad)) λb O=>ad;have bt:aq Y U 72 #[.int .i64 f.proc,.int .i64 f.pc,.slice IA x ic,.slice S y lc]:=aQ.2.1.on au.2 bf;have de:aq Y gc 72 #[.int .i64 g.proc,.int .i64 g.pc,.slice dg z dc,.slice KA v kc]:=au.1;have bu:=aE bn bt de;obtain⟨e0,a6,aP⟩:=bt.two;clear f0 dL dO;obtain⟨f0,dL,dO⟩:=de.two;have cE:∀{q:Prop},¬q->(l=k->q)->(false=true↔l=k):=λac au=>⟨λh=>(by cases h),λh=>absurd (au h) ac⟩
 have bG:l=k->f=g:=λh=>by have ac:=bX.1;have au:=bX.2.1;rw[h,au] at ac;injection ac with ac;exact ac.symm
 have aA:=ag bG trivial;clear cu au bn bt de cE bG;have ay:Ext w Y:=(ah.1.trans bo.1).trans bu.1;have L:=ae ay;clear ay;by_cases ac:f.proc=g.proc
 case neg=>
  have q5:(f.proc != g.proc)=true:=by simpa using ac
  have cz:=ae ac;clear ac;exact zW
 have q5:(f.proc != g.proc)=false:=by simpa using ac
 have H1:=ae ac;clear ac;by_cases au:f.pc=g.pc
 case neg=>
  have dk:(f.pc != g.pc)=true:=by simpa using au
  have cz:=ae au;clear au;exact zW
 have dk:(f.pc != g.pc)=false:=by simpa using au
 have bc:=ae au;clear au;go_wp2_with(fail);have s:=bu.1;refine(ib IA dg x ic z dc f.ints g.ints Y (bX.2.2.1.on (Fr.ext s)) (bX.2.2.2.2.1.on (Fr.ext s)) ad).mono ?_;rintro r aU ⟨rfl,bj⟩;clear s;have aX:=ae (show Ext Y aU from Fr.of bj);clear bj e0 a6 aP f0 dL dO;obtain⟨e0,a6,aP⟩:=(bu.2.1.aj aX.o).two;obtain⟨f0,dL,dO⟩:=(bu.2.2.aj aX.o).two
 cases aY:decide (f.ints=g.ints) with
 | false=>
  have cz:=ae (of_decide_eq_false aY);clear aY;go_wp2_with(fail);go_ret
  exact⟨false,rfl,⟨λh=>(by cases h),λh=>absurd (by rw[aA.1 h]) cz.o⟩,L.trans aX.o⟩
 | true=>
  have bP:=ae (of_decide_eq_true aY);clear aY;go_wp2_with(fail);have s:=bu.1.trans aX.o;refine(ib S KA y lc v kc f.au g.au aU (bX.2.2.2.1.on (Fr.ext s)) (bX.2.2.2.2.2.on (Fr.ext s)) ad).mono ?_;rintro r b6 ⟨rfl,aV⟩;clear s;have bd:=ae (show Ext aU b6 from Fr.of aV);clear aV e0 a6 aP f0 dL dO
  cases bR:decide (f.au=g.au) with
  | false=>
   have cz:=ae (of_decide_eq_false bR);clear bR;go_wp2_with(fail);go_ret
   exact⟨false,rfl,⟨λh=>(by cases h),λh=>absurd (by rw[aA.1 h]) cz.o⟩,(L.trans aX.o).trans bd.o⟩
  | true=>
   have b5:=ae (of_decide_eq_true bR);clear bR;go_wp2_with(fail);go_roundw
   case rel=>
    have aG:f=g:=uD.2 ⟨H1.o,bc.o,bP.o,b5.o⟩;refine⟨i+1,by go_num,ad,((bo.1.trans bu.1).trans aX.o).trans bd.o,λj bi=>?_⟩;by_cases az:j=i
    .rw[az,bX.1,bX.2.1,aG]
    .exact bo.2 j ad
   case measure=>exact aH
 ):p:=h
theorem Bv{p:Prop}(h:p:=by
 have bb:x<=100000:=ad;have ai:y<=100000:=ad;have bX:=cH G o J cg u ci;clear aw T cx dR G o J cg u ci b0 a9 ba aN bI cn Z;obtain⟨ws,nt⟩:∃ws,ws=wr.heap.size:=⟨_,rfl⟩
 have ck:cj<ws:=ad;have cP:bL<ws:=ad;have aI:w.heap.size<ws:=ad;have aL:w.heap.size+1<ws:=ad;have aC:=ae nt;clear nt;go_upto_region 6 with(fail);refine rC (λb=>¬b<ws) [13] (.free 0 (.held 1 (.free 2 (.free 3 (.held 4 (.free 5 (.held 6 (.free 7 (.free 8 (.held 9 (.pick [10,11] (λi=>bif i == 10 then .pick [11] (λ_=>.pick [12] (λ_=>.pick [13] (λ_=>.stop))) else .pick [10] (λ_=>.pick [12] (λ_=>.pick [13] (λ_=>.stop))))))))))))))) ?_;refine tf ?_;refine nh ?_
 iterate 2 refine tf ?_
 refine nh ?_;refine tf ?_;refine nh ?_
 iterate 2 refine tf ?_
 refine nh ?_;refine mu (P:=?P1) (ops:=?o1) (Q:=?q1) (R:=?r1) (tails:=?t1) (rest:=.pick [12] (λ_=>.pick [13] (λ_=>.stop))) (aa:=?aa) (C:=λ(U gc:Nat) V=>Ext wr V/\aq V U 72 #[.int .i64 0,.int .i64 0,.slice none 0 0,.slice none 0 0]/\aq V gc 72 #[.int .i64 0,.int .i64 0,.slice none 0 0,.slice none 0 0]/\U≠gc/\wr.heap.size<=U/\wr.heap.size<=gc) (λkey=>?main) ?key
 case main=>
  refine a2 ?_ ?_
  ·
   refine dT ?_;refine ao ?_;refine dT ?_;generalize hV:World.drew (World.alloc _ _)=V;have hC:Ext wr V/\aq V wr.heap.size 72 #[.int .i64 0,.int .i64 0,.slice none 0 0,.slice none 0 0]/\aq V (wr.heap.size+1) 72 #[.int .i64 0,.int .i64 0,.slice none 0 0,.slice none 0 0]/\wr.heap.size≠wr.heap.size+1/\wr.heap.size<=wr.heap.size/\wr.heap.size<=wr.heap.size+1:=by
    exact zV
   clear hV;obtain⟨cv,bS,cW,H,cm,cc⟩:=hC;generalize bH:wr.heap.size+1=g2 at cW H cc ⊢;generalize b2:wr.heap.size=cb at bS H ⊢;exact key cb g2 V ⟨cv,bS,cW,H,ad,ad⟩
  ·
   refine dT ?_;refine ao ?_;refine dT ?_;generalize hV:World.drew (World.alloc _ _)=V;have hC:Ext wr V/\aq V wr.heap.size 72 #[.int .i64 0,.int .i64 0,.slice none 0 0,.slice none 0 0]/\aq V (wr.heap.size+1) 72 #[.int .i64 0,.int .i64 0,.slice none 0 0,.slice none 0 0]/\wr.heap.size+1≠wr.heap.size/\wr.heap.size<=wr.heap.size/\wr.heap.size<=wr.heap.size+1:=by
    exact zV
   clear hV;obtain⟨cv,bS,cW,H,cm,cc⟩:=hC;generalize bH:wr.heap.size+1=g2 at cW H cc ⊢;generalize b2:wr.heap.size=cb at bS H ⊢;exact key g2 cb V ⟨cv,cW,bS,H,ad,ad⟩
 intro U gc V ⟨bm,N,ar,bf,ab,a9⟩;obtain⟨e0,a6,aP⟩:=N.two;obtain⟨f0,dL,dO⟩:=ar.two;have aJ:=cH bm N ar bf ab a9;clear bm N ar a0 aj af a7 am aF c0 c1 c2 c3 d0 d1 d2 d3;refine ao ?_;refine aB rfl (λK hK=>?_) rfl;go_simp;refine dq hK (((LW.setCell (.inl (show ¬U<ws from by have:=aC.o;omega)) _).setCell (.inl (show ¬U<ws from by have:=aC.o;omega)) _).setCell (.inl (show ¬U<ws from by have:=aC.o;omega)) _ |>.setCell (.inl (show ¬U<ws from by have:=aC.o;omega)) _) ?_;clear hK K;refine Ig (λX=>Fr (λb=>¬b<wr.heap.size) wr X/\aq X U 72 #[.int .i64 f.proc,.int .i64 f.pc,.slice IA x ic,.slice S y lc]/\aq X gc 72 #[.int .i64 0,.int .i64 0,.slice none 0 0,.slice none 0 0]) ?_ (λX hX=>?_)
 .have ac:=km 0 [.int .i64 f.proc,.int .i64 f.pc,.slice IA x ic,.slice S y lc] aJ.2.1 rfl;refine⟨Fr.trans (aJ.1.mono λ_ h=>h.elim) (ac.2.mono λb O=>by have:=aJ.2.2.2.2.1;omega),ac.1,aJ.2.2.1.on ac.2 (Ne.symm bf)⟩
 have aQ:=ae hX;clear e0 a6 aP f0 dL dO;obtain⟨f0,dL,dO⟩:=hX.2.2.two;clear hX;exact fp
 ):p:=h
theorem pN{p:Prop}(h:p:=by
 have ah:=cJ aw bC bD (bq.1.on (Fr.ext aw)) (bq.2.on (Fr.ext aw));obtain⟨a0,aj,af⟩:=bC.two;obtain⟨a7,am,aF⟩:=bD.two;clear be aw bC bD bq;by_cases I:n=m
 case neg=>
  have q1:((n:Int) != (m:Int))=true:=by simp;omega
  have ax:=ae I;clear I;go_wp2_with(fail);go_ret;exact⟨false,rfl,⟨λh=>(by cases h),λh=>absurd (by rw[<-bY.1,<-bY.2.1,h]) ax.o⟩,ah.1⟩
 subst I;have q1:((n:Int) != (n:Int))=false:=by simp
 clear a0 aj af a7 am aF;obtain⟨a0,aj,af⟩:=ah.2.1.two;obtain⟨a7,am,aF⟩:=ah.2.2.1.two;go_wp2_with(fail);clear a0 aj af a7 am aF;go_loopw [5] (λcy wr=>∃i:Nat,cy=.int .i64 i/\i<=n/\Ext W wr/\∀j,j<i->l[j]?=k[j]?) (λcy _=>n - (intOf cy).toNat)
 case atStart=>exact⟨0,rfl,ad,LW,λj bi=>ad⟩
 case round=>
  obtain⟨i,rfl,an,aw,T⟩:=hrel;have bo:=ag aw T;obtain⟨a0,aj,af⟩:=(ah.2.1.aj aw).two;obtain⟨a7,am,aF⟩:=(ah.2.2.1.aj aw).two;by_cases al:i<n
  .obtain⟨cj,cY,f,IA,x,ic,S,y,lc,rfl,cx,G,c0,c1,c2,c3,b0,a9,J,cg⟩:=(ah.2.2.2.1.on (Fr.ext aw)).qi al;obtain⟨bL,go,g,dg,z,dc,KA,v,kc,rfl,dR,o,d0,d1,d2,d3,ba,aN,u,ci⟩:=(ah.2.2.2.2.on (Fr.ext aw)).qi al;exact Bu
  .obtain rfl:i=n:=ad;clear aw T;go_wp2_with(fail);go_ret;refine⟨true,rfl,⟨λ_=>?_,λ_=>rfl⟩,ah.1.trans bo.1⟩;apply List.ext_getElem?
   intro j;exact BP
 ):p:=h
theorem vW{p:Prop}(h:p:=by
 go_enter func33,ntmps33;exact pM
 ):p:=h
end C6
open C6 in
theorem oy(A B:L3)(n c m aK:Nat)(l k:List ak)(w:World)(hl:Sl w (av w) A n (l.map ew))(ap:Sl w (av w) B m (k.map ew))(hn:n<=1000000)(bI:∀f∈l,f.ints.length<=100000/\f.au.length<=100000) :
  Calls prog 33 #[.agg #[.slice A n c],.agg #[.slice B m aK]] w (ix w (l=k)):=by
 exact vV
theorem E9{s t:ai}:s=t↔s.fault=t.fault/\s.globals=t.globals/\s.table=t.table/\s.threads=t.threads:=by
 cases s;cases t
 simp only[ai.mk.injEq];constructor
 .rintro⟨ac,au,aY,bR⟩;exact⟨bR,ac,au,aY⟩
 .rintro⟨ac,au,aY,bR⟩;exact⟨au,aY,bR,ac⟩
namespace C7
theorem pN{p:Prop}(h:p:=by
 have ah:=cJ aw bC bD (bq.1.on aw) (bq.2.1.on aw);obtain⟨a0,aj,af⟩:=bC.two;obtain⟨a7,am,aF⟩:=bD.two;clear be aw bC bD;by_cases ac:s.fault=Q.fault
 case neg=>
  have q5:(s.fault != Q.fault)=true:=by simpa using ac
  have cz:=ae ac;clear ac;go_wp2_with(fail);go_ret;exact⟨false,rfl,⟨λh=>(by cases h),λh=>absurd (by rw[h]) cz.o⟩,ah.1⟩
 have q5:(s.fault != Q.fault)=false:=by simpa using ac
 have H1:=ae ac;clear ac;go_wp2_with(fail);refine(ib GA bF gn gc l k s.globals Q.globals W ah.2.2.2.1.at_.g ah.2.2.2.2.at_.g ad).mono ?_;rintro r aU ⟨rfl,bj⟩;have aX:=ae (show Ext W aU from Fr.of bj);clear bj a0 aj af a7 am aF;obtain⟨a0,aj,af⟩:=(ah.2.1.aj aX.o).two;obtain⟨a7,am,aF⟩:=(ah.2.2.1.aj aX.o).two
 cases au:decide (s.globals=Q.globals) with
 | false=>
  have cz:=ae (of_decide_eq_false au);clear au;go_wp2_with(fail);go_ret
  exact⟨false,rfl,⟨λh=>(by cases h),λh=>absurd (by rw[h]) cz.o⟩,ah.1.trans aX.o⟩
 | true=>
 have bc:=ae (of_decide_eq_true au);clear au;go_wp2_with(fail);refine(EX TA ab tn tc aM aG s.table Q.table aU (ah.2.2.2.1.on aX.o).at_.t.holds (ah.2.2.2.2.on aX.o).at_.t.holds ad).mono ?_;rintro r b6 ⟨rfl,aV⟩;have bd:=ae (show Ext W b6 from aX.trans (Fr.of aV));clear aV a0 aj af a7 am aF aX;obtain⟨a0,aj,af⟩:=(ah.2.1.aj bd.o).two;obtain⟨a7,am,aF⟩:=(ah.2.2.1.aj bd.o).two
 cases aY:decide (s.table=Q.table) with
 | false=>
  have cz:=ae (of_decide_eq_false aY);clear aY;go_wp2_with(fail);go_ret
  exact⟨false,rfl,⟨λh=>(by cases h),λh=>absurd (by rw[h]) cz.o⟩,ah.1.trans bd.o⟩
 | true=>
 have bP:=ae (of_decide_eq_true aY);clear aY;by_cases I:hn=hm
 case neg=>
  have dk:((hn:Int) != (hm:Int))=true:=by simp;omega
  have cz:=ae I;clear I;go_wp2_with(fail);go_ret;exact⟨false,rfl,⟨λh=>(by cases h),λh=>absurd (by rw[<-bq.2.2.2.1,<-bq.2.2.2.2,h]) cz.o⟩,ah.1.trans bd.o⟩
 subst I;have dk:((hn:Int) != (hn:Int))=false:=by simp
 have dp:hn<=1000:=by have:=bq.2.2.1.h;have:=bq.2.2.2.1;omega
 go_wp2_with(fail);clear a0 aj af a7 am aF;go_loopw [5] (λcy wr=>∃i:Nat,cy=.int .i64 i/\i<=hn/\Ext W wr/\∀j,j<i->s.threads[j]?=Q.threads[j]?) (λcy _=>hn - (intOf cy).toNat)
 case atStart=>exact⟨0,rfl,ad,bd.o,λj bi=>ad⟩
 case round=>
  obtain⟨i,rfl,an,aw,T⟩:=hrel;clear bd;have bo:=ag aw T;obtain⟨a0,aj,af⟩:=(ah.2.1.aj aw).two;obtain⟨a7,am,aF⟩:=(ah.2.2.1.aj aw).two;by_cases al:i<hn
  .obtain⟨cj,cY,R,FA,x,ic,rfl,cx,G,c0,b0,y⟩:=(ah.2.2.2.1.on aw).at_.h.kp al;obtain⟨bL,go,gt,dg,z,dc,rfl,dR,o,d0,ba,a6⟩:=(ah.2.2.2.2.on aw).at_.h.kp al;have bN:cj<wr.heap.size:=cx;have aO:bL<wr.heap.size:=dR;have bI:=bq.2.2.1.f R (Ln G);have cn:x=R.length:=by have:=y.1;simpa using this.symm
   have bb:x<=1000000:=ad;have bX:=cJ G o y a6 bI.2;clear aw T cx dR G o y a6 b0 ba bI cn;go_upto_region 6 with(fail);refine eC (λ_=>False) [(0,3),(1,0),(2,3),(3,3),(4,0),(5,3),(6,0),(7,3),(8,3),(9,0),(10,2),(11,3)] ?_;refine pf ?_;refine ph ?_
   iterate 2 refine pf ?_
   refine ph ?_;refine pf ?_;refine ph ?_
   iterate 2 refine pf ?_
   refine ph ?_;refine ax rfl (λK hK=>?_);go_simp;have a3:Ext wr wr.drew:=LW.drew;refine(oy FA dg x ic z dc R gt wr.drew (bX.2.2.1.on (Fr.ext a3)) (bX.2.2.2.1.on (Fr.ext a3)) bb bX.2.2.2.2).mono ?_;rintro r cK ⟨b,rfl,O,co⟩;have cc:=ae (Fr.aF co);have bO:=ae O;clear O co a3 a0 aj af a7 am aF c0 d0;refine dP hK ?_;clear hK K;refine pf ?_;refine aC ?_;have ch:s=Q->R=gt:=λh=>by have ac:=bX.1;have au:=bX.2.1;rw[h,au] at ac;injection ac with ac;exact ac.symm
   have aL:=ae ch;clear ch
   cases b with
   | false=>
    go_wp2_with(fail);go_ret
    exact⟨false,rfl,⟨λh=>(by cases h),λh=>absurd (bO.2 (aL.o h)) (by simp)⟩,(ah.1.trans bo.1).trans cc.o⟩
   | true=>
    go_wp2_with(fail);go_roundw
    case rel=>
     refine⟨i+1,by go_num,ad,bo.1.trans cc.o,λj bi=>?_⟩;by_cases az:j=i
     .rw[az,bX.1,bX.2.1,bO.1 rfl]
     .exact bo.2 j ad
    case measure=>exact aH
  .obtain rfl:i=hn:=ad;clear aw T;go_wp2_with(fail);go_ret;refine⟨true,rfl,⟨λ_=>E9.2 ⟨H1.o,bc.o,bP.o,?_⟩,λ_=>rfl⟩,ah.1.trans bo.1⟩;apply List.ext_getElem?
   intro j;by_cases bi:j<i
   .exact bo.2 j bi
   .rw[List.getElem?_eq_none (aD bq.2.2.2.1),List.getElem?_eq_none (aD bq.2.2.2.2)]
 ):p:=h
end C7
open C7 in
theorem Jq(s Q:ai)(q ar:SV)(w:World)(h:q.Ok w s)(F:ar.Ok w Q)(bI:Small s) :
  Calls prog 20 #[.agg (q.val s),.agg (ar.val Q)] w (ix w (s=Q)):=by
 obtain⟨GA,gn,gc,TA,tn,tc,HA,hn,hc⟩:=q;obtain⟨bF,l,k,ab,aM,aG,bO,hm,hd⟩:=ar;have r3:gn<=1000:=by have ac:=h.at_.g.1;have au:=bI.g;rw[Lo] at ac;have aY:s.globals.length=gn:=ac;omega
 have tW:tn<=5000:=by have ac:=h.at_.t.1;have au:=bI.t;rw[Lo] at ac;have aY:s.table.length=tn:=ac;omega
 have cl:s.threads.length=hn:=by have ac:=h.at_.h.1;rw[Lo] at ac;exact ac
 have cf:Q.threads.length=hm:=by have ac:=F.at_.h.1;rw[Lo] at ac;exact ac
 have bq:=cJ h F bI cl cf;clear h F bI cl cf;dsimp only[SV.val];go_enter func20,ntmps20;exact pM
def iy(e:TypeId)(z n:Nat)(xs:List Value)(w:World)(st:Nat)(v1 v2:Value)(F:List Nat):Prop:=
 (st=0/\v1=undef/\v2=undef/\F=[])\/(st=1/\v2=undef/\∃A,v1=.slice A 0 0/\Own w e z A 0 0 [] F)\/(st=2/\∃A c,v2=.slice A n c/\Own w e z A n c xs F)
theorem iy.al{e:TypeId}{z n:Nat}{xs:List Value}{w ab:World}{st:Nat}{v1 v2:Value}{F:List Nat}(h:iy e z n xs w st v1 v2 F)(ap:∀b∈F,ab.heap[b]?=w.heap[b]?):iy e z n xs ab st v1 v2 F:=by
 rcases h with h|⟨ac,au,A,aY,bR⟩|⟨ac,A,c,au,aY⟩
 .exact .inl h
 .exact .inr (.inl ⟨ac,au,A,aY,bR.al ap⟩)
 .exact .inr (.inr ⟨ac,A,c,au,aY.al ap⟩)
def x3(g t h:Nat)(b:Bool):List Nat:=
 (bif g == 0 then [0] else [])++((bif g == 1 then [3] else [])++((bif t == 0 then [4] else [])++((bif t == 1 && g == 2 then [7] else [])++((bif h == 0 then [8] else [])++((bif h == 1 && t == 2 then [11] else [])++(bif b then [] else [15]))))))
def Hl(b:Bool):PT:=bif b then .pick [16] (λ_=>.stop) else .pick [15] (λ_=>.pick [16] (λ_=>.stop))
def jm:Nat->Nat->Nat->Nat->Bool->PT
 | 0,_,_,_,_=>.stop
 | f+1,g,t,h,b=>bif h == 2 then .free 14 (Hl b) else .pick (x3 g t h b) λi=>
   bif i == 0 then jm f 1 t h b else bif i == 3 then jm f 2 t h b else bif i == 4 then jm f g 1 h b else bif i == 7 then jm f g 2 h b else bif i == 8 then jm f g t 1 b else bif i == 11 then jm f g t 2 b else jm f g t h true
structure ha(W:World)(s:ai)(gn tn hn:Nat)(hx:List Value)(w:World)(g t h:Nat)(b:Bool)(bP cj v10 v11 aF aI aG:Value)(F1 F2 bT b2:List Nat):Prop where
 ext:Ext W w
 g:iy 3 1 gn (s.globals.map df) w g cj v10 F1
 t:iy 123 2 tn (s.table.flatMap bK) w t v11 aF F2
 h:iy 68 1 hn hx w h aI aG bT
 o:(b=false/\bP=undef/\b2=[])\/(b=true/\∃N,bP=.pointer (some ⟨N,0,none⟩)/\b2=[N]/\aq w N 40 #[.slice none 0 0,.slice none 0 0,.slice none 0 0,.int .i64 0])
 nd:(F1++(F2++(bT++b2))).Nodup
 lo:∀k∈F1++(F2++(bT++b2)),W.heap.size<=k/\k<w.heap.size
theorem qx(h:(F1++F2).Nodup)(hl:∀k∈F1++F2,k<m):(F1++(m::F2)).Nodup:=
 (List.perm_middle (a:=m) (l₁:=F1) (l₂:=F2)).nodup_iff.2 (List.nodup_cons.2 ⟨λh=>by have:=hl m h;omega,h⟩)
theorem tu{A B q C:List Nat}(h:(A++(B++C)).Nodup)(hl:∀k∈A++(B++C),k<m)(aR:q.Nodup)(hn:∀k∈q,k∈B\/m<=k):(A++(q++C)).Nodup:=by
 have ac:=List.nodup_append.1 h;have au:=List.nodup_append.1 ac.2.1;refine List.nodup_append.2 ⟨ac.1,List.nodup_append.2 ⟨aR,au.2.1,λx hx y bb c=>?_⟩,λx hx y bb c=>?_⟩
 .subst c;rcases hn x hx with aY|aY
  .exact au.2.2 x aY x bb rfl
  .have:=hl x (by simp[bb]);omega
 .subst c;rcases Lt.1 bb with bb|bb
  .rcases hn x bb with aY|aY
   .exact ac.2.2 x hx x (by simp[aY]) rfl
   .have:=hl x (by simp[hx]);omega
  .exact ac.2.2 x hx x (by simp[bb]) rfl
section
variable {a:Act} {w:World} {K:Act->World->Prop} {Q:Exit->Act->World->Prop} {dst:Option Nat} {ty:TypeId} {p:String} {aa:Array Edge}
theorem Fo(h:K (a.put dst (.slice (some ⟨w.heap.size,0,none⟩) 0 0)) (w.alloc (.cells #[] 3))):Oper.wp prog ⟨dst,.buildSlice 22 0 #[],ty,p,aa,none⟩ a w K Q:=by
 go_simp;exact h
theorem Iz(h:K (a.put dst (.slice (some ⟨w.heap.size,0,none⟩) 0 0)) (w.alloc (.cells #[] 123))):Oper.wp prog ⟨dst,.buildSlice 37 0 #[],ty,p,aa,none⟩ a w K Q:=by
 go_simp;exact h
theorem IB(h:K (a.put dst (.slice (some ⟨w.heap.size,0,none⟩) 0 0)) (w.alloc (.cells #[] 68))):Oper.wp prog ⟨dst,.buildSlice 38 0 #[],ty,p,aa,none⟩ a w K Q:=by
 go_simp;exact h
theorem Iy(h:K (a.put dst (.pointer (some ⟨w.heap.size,0,none⟩))) (w.alloc (.cells #[.slice none 0 0,.slice none 0 0,.slice none 0 0,.int .i64 0] 40))):Oper.wp prog ⟨dst,.alloc 40,ty,p,aa,none⟩ a w K Q:=by
 go_simp;exact h
end
theorem iy.begin{z:Nat}{w:World}(h:iy e z n xs w 0 v1 v2 F)(hw:w.alloc (.cells #[] e)=ab):F=[]/\v2=undef/\iy e z n xs ab 1 (.slice (some ⟨w.heap.size,0,none⟩) 0 0) v2 [w.heap.size]:=by
 rcases h with⟨_,_,au,aY⟩|⟨h,_⟩|⟨h,_⟩
 .subst hw;exact⟨aY,au,.inr (.inl ⟨rfl,au,_,rfl,⟨World.ownsRow_made w #[] 0 (LJ _) (LJ _) (by simp),rfl⟩⟩)⟩
 .cases h
 .cases h
theorem iy.fill{P:Program}{t:TypeId}{z:Value}{size bytes:Nat}{w:World}(h:iy e size n xs w 1 v1 v2 F){o:Oper}{a:Act}{K:Act->World->Prop}{Q:Exit->Act->World->Prop}(aX:cj P t e z size bytes)(s x:Operand)
  (bn:o.op=.call {callee:=.builtin .append,args:=#[s,x],argTypes:=#[t,t]}) (hs:a.eval s=v1) {A:L3} {c:Nat} (hx:a.eval x=.slice A n c) (ba:Src w size A n xs) (O:n*bytes<=140737488355328) (y:n<=140737488355328) (d:A=none->n=0)
  (hK:∀v ab R,iy e size n xs ab 2 v1 v R->Fr (λk=>k∈F) w ab->R.Nodup->(∀k∈R,(k∈F\/w.heap.size<=k)/\k<ab.heap.size)->K (a.put o.dst v) ab):o.wp P a w K Q:=by
 rcases h with⟨h,_⟩|⟨_,_,B,bG,E⟩|⟨h,_⟩
 .cases h
 .rw[bG] at hs;refine kf _ aX s x bn 0 _ 0 [] hs E.row A n c xs hx ba (by rw[LF];exact O) ad (LJ _) d λG ab bS cW H=>?_;simp only[LF,LN] at bS;obtain⟨I,aK,rfl,hc,_⟩:=b5 bS;refine hK _ ab (bt I n aK) (.inr (.inr ⟨rfl,I,aK,rfl,bS,rfl⟩)) (LW.grown cW λg a9=>.inl (by rw[E.eq];simp[a9])) (eZ _ _ _) λb O=>?_;have aT:(Value.slice I n aK).ownBlock=some b:=by simpa using O
  refine⟨?_,(bS.lt b aT).2⟩;rcases H with H|H
  .rw[H] at aT;exact .inl (by rw[E.eq];simp[aT])
  .rw[H] at aT;injection aT with aT;right;omega
 .cases h
section
variable {ops:Array Oper} {Q:Exit->Act->World->Prop} {W:World} {s:ai} {gn tn hn gc tc hc:Nat} {GA TA HA:L3} {hx:List Value} {ws:Nat} {aa:Value->Value->Value->Value->Value->Value->Value->Act}
 {p0 p3 p4 p7 p8 p11 p15:String} {a0 a3 a4 a7 a8 a11 a15:Array Edge} {t15:TypeId}
theorem ha.dj{bT b2:List Nat}{k:Nat}:k∈F1++(F2++(bT++b2))↔k∈F1\/k∈F2\/k∈bT\/k∈b2:=by simp only[Lt]
theorem World.kR(w:World)(o:Obj):(w.alloc o).heap.size=w.heap.size+1:=by first|(simp;done)|(cases o<;>simp;done)|(unfold World.alloc;simp;done)|rfl
theorem ha.dS{w:World}{M:List Nat}(J:Fr (λk=>k∈M) w ab)(al:∀k∈F,k<w.heap.size)(hd:∀k∈F,k∉M):∀k∈F,ab.heap[k]?=w.heap[k]?:=λk ap=>J.block k (al k ap) (hd k ap)
theorem FH(hG:Sl W (av W) GA gn (s.globals.map D.i))(hT:Sl W (av W) TA tn (s.table.map lD))(hH:Src W 1 HA hn hx)(JR:HA=none->hn=0)(r3:gn<=100000)(tW:tn<=100000)(pd:hn<=100000)(nt:ws<=W.heap.size)
  (o0:ops[0]?=some ⟨some 7,.buildSlice 22 0 #[],22,p0,a0,none⟩)
  (o3:ops[3]?=some ⟨some 10,.call {callee:=.builtin .append,args:=#[.tmp 7,.tmp 9],argTypes:=#[22,22]},22,p3,a3,none⟩)
  (o4:ops[4]?=some ⟨some 11,.buildSlice 37 0 #[],37,p4,a4,none⟩)
  (o7:ops[7]?=some ⟨some 14,.call {callee:=.builtin .append,args:=#[.tmp 11,.tmp 13],argTypes:=#[37,37]},37,p7,a7,none⟩)
  (o8:ops[8]?=some ⟨some 15,.buildSlice 38 0 #[],38,p8,a8,none⟩)
  (JU:ops[11]?=some ⟨some 18,.call {callee:=.builtin .append,args:=#[.tmp 15,.tmp 17],argTypes:=#[38,38]},38,p11,a11,none⟩)
  (JV:ops[15]?=some ⟨some 5,.alloc 40,t15,p15,a15,none⟩)
  (q5:∀a b c d e f g x,(aa a b c d e f g).put (some 5) x=aa x b c d e f g) (q7:∀a b c d e f g x,(aa a b c d e f g).put (some 7) x=aa a x c d e f g) (Fs:∀a b c d e f g x,(aa a b c d e f g).put (some 10) x=aa a b x d e f g)
  (Jp:∀a b c d e f g x,(aa a b c d e f g).put (some 11) x=aa a b c x e f g) (J5:∀a b c d e f g x,(aa a b c d e f g).put (some 14) x=aa a b c d x f g) (J6:∀a b c d e f g x,(aa a b c d e f g).put (some 15) x=aa a b c d e x g) (J7:∀a b c d e f g x,(aa a b c d e f g).put (some 18) x=aa a b c d e f x)
  (e7:∀a b c d e f g,(aa a b c d e f g).eval (.tmp 7)=b) (e9:∀a b c d e f g,(aa a b c d e f g).eval (.tmp 9)=.slice GA gn gc) (JJ:∀a b c d e f g,(aa a b c d e f g).eval (.tmp 11)=d) (JK:∀a b c d e f g,(aa a b c d e f g).eval (.tmp 13)=.slice TA tn tc)
  (JL:∀a b c d e f g,(aa a b c d e f g).eval (.tmp 15)=f) (JM:∀a b c d e f g,(aa a b c d e f g).eval (.tmp 17)=.slice HA hn hc)
  (l7:∀b bP cj v10 v11 aF aI aG F1 F2 bT b2 w,ha W s gn tn hn hx w 2 2 2 b bP cj v10 v11 aF aI aG F1 F2 bT b2->cR prog ops Q (Fr (λk=>¬k<ws)) [16] (.free 14 (Hl b)) (aa bP cj v10 v11 aF aI aG) w) :
  ∀(n g t h:Nat) (b:Bool),g<=2->t<=2->h<=2->(t=2->g=2)->(h=2->t=2)->7<n+g+t+h+b.toNat->∀bP cj v10 v11 aF aI aG F1 F2 bT b2 w,ha W s gn tn hn hx w g t h b bP cj v10 v11 aF aI aG F1 F2 bT b2->
   cR prog ops Q (Fr (λk=>¬k<ws)) [16] (jm n g t h b) (aa bP cj v10 v11 aF aI aG) w:=by
 intro n
 induction n with
 | zero=>intro g t h b a9 ht ah _ _ hn;cases b<;>simp at hn<;>omega
 | succ n ao=>
  intro g t h b a9 ht ah cF E J bP cj v10 v11 aF aI aG F1 F2 bT b2 w hS;unfold jm;by_cases au:h=2
  .have cx:=E au;have bH:=cF cx;subst au cx bH;exact l7 _ _ _ _ _ _ _ _ _ _ _ _ _ hS
  have bj:(h == 2)=false:=by simpa using au
  rw[bj];have bB:=hS.lo;have U:=hS.ext.size;have al:∀k∈F1++(F2++(bT++b2)),k<w.heap.size:=λk ap=>(bB k ap).2;have z:∀o:Obj,Fr (λk=>¬k<ws) w (w.alloc o):=λo=>LW.alloc o;have m:∀(o:Obj) (k:Nat),k<w.heap.size->(w.alloc o).heap[k]?=w.heap[k]?:=λo k ap=>Below.heap_alloc w o k ap;have bI:∀o:Obj,(w.alloc o).heap.size=w.heap.size+1:=λo=>World.kR w o;intro i an;simp only[x3,Lt] at an;rcases an with an|an|an|an|an|an|an
  ·
   cases u:(g == 0) with
   | false=>rw[u] at an;exact absurd an (by simp)
   | true=>
   rw[u] at an;have cL:g=0:=by simpa using u
   have i0:i=0:=by simpa using an
   subst cL i0;obtain⟨y,_,ba⟩:=hS.g.begin rfl;subst y;refine⟨_,o0,λK hK=>?_⟩;rw[if_pos (by rfl)];refine Fo (hK _ _ (λ_=>z _) ?_);rw[q7];refine ao 1 t h b ad ht ah ad E ad _ _ _ _ _ _ _ [w.heap.size] F2 bT b2 _ ⟨hS.ext.alloc _,ba,hS.t.al λk ap=>m _ k (al k (ha.dj.2 (by simp[ap]))),hS.h.al λk ap=>m _ k (al k (ha.dj.2 (by simp[ap]))),?_,?_,?_⟩
   .rcases hS.o with ac|⟨ac,N,aY,bR,cI⟩
    .exact .inl ac
    .exact .inr ⟨ac,N,aY,bR,cI.alloc _⟩
   .exact qx (F1:=[]) hS.nd al
   .intro k ap;rw[bI];simp only[Lt,LC,List.not_mem_nil,or_false] at ap;rcases ap with ap|ap
    .omega
    .have:=bB k (by simpa using ap);omega
  ·
   cases u:(g == 1) with
   | false=>rw[u] at an;exact absurd an (by simp)
   | true=>
   rw[u] at an;have cb:g=1:=by simpa using u
   subst cb;have i0:i=3:=by simpa using an
   subst i0;refine⟨_,o3,λK hK=>?_⟩;rw[if_pos (by rfl)];refine iy.fill hS.g dh (.tmp 7) (.tmp 9) rfl (e7 _ _ _ _ _ _ _) (e9 _ _ _ _ _ _ _) (by have:=Src.lM (hG.on (Fr.ext hS.ext)).ints (jH _) (mY _) ad;rwa [uA] at this) ad ad (λh=>by subst h;exact hG.none_) (λv ab R ba cd a5 r=>?_);have cq:=cd.size;have l:∀k∈F1,W.heap.size<=k:=λk ap=>(bB k (ha.dj.2 (by simp[ap]))).1;have S:Ext W ab:=Fr.low (M:=λk=>k∈F1) (Fr.trans (Fr.mono hS.ext λ_ h=>h.elim) cd) l;refine hK _ _ (λ_=>cd.mono λk ap=>by have:=l k ap;omega) ?_;rw[Fs];have j:∀k,k∈F1++(F2++(bT++b2))->k∉F1->ab.heap[k]?=w.heap[k]?:=λk ap hn=>cd.block k (al k ap) hn;have n1:=List.nodup_append.1 hS.nd;have n2:=List.nodup_append.1 n1.2.1;have n3:=List.nodup_append.1 n2.2.1;refine ao 2 t h b ad ht ah ad E ad _ _ _ _ _ _ _ R F2 bT b2 _ ⟨S,ba,hS.t.al (λk ap=>j k (ha.dj.2 (by simp[ap])) (λac=>n1.2.2 k ac k (by simp[ap]) rfl)),hS.h.al (λk ap=>j k (ha.dj.2 (by simp[ap])) (λac=>n1.2.2 k ac k (by simp[ap]) rfl)),?_,?_,?_⟩
   .rcases hS.o with ac|⟨ac,N,aY,bR,cI⟩
    .exact .inl ac
    .have q:∀k∈b2,k∉F1:=λk ap=>λac=>n1.2.2 k ac k (by simp[ap]) rfl;exact .inr ⟨ac,N,aY,bR,show _=_ from (j N (ha.dj.2 (by simp[bR])) (q N (by simp[bR]))).trans cI⟩
   .exact tu (A:=[]) hS.nd al a5 λk ap=>(r k ap).1
   .intro k ap;rcases ha.dj.1 ap with ap|ap|ap|ap
    .have:=r k ap;have:W.heap.size<=k:=by rcases this.1 with ac|ac;exact l k ac;omega
     omega
    .have:=bB k (ha.dj.2 (by simp[ap]));omega
    .have:=bB k (ha.dj.2 (by simp[ap]));omega
    .have:=bB k (ha.dj.2 (by simp[ap]));omega
  ·
   cases u:(t == 0) with
   | false=>rw[u] at an;exact absurd an (by simp)
   | true=>
   rw[u] at an;have cL:t=0:=by simpa using u
   have i0:i=4:=by simpa using an
   subst cL i0;obtain⟨y,_,ba⟩:=hS.t.begin rfl;subst y;refine⟨_,o4,λK hK=>?_⟩;rw[if_pos (by rfl)];refine Iz (hK _ _ (λ_=>z _) ?_);rw[Jp];refine ao g 1 h b a9 ad ah ad (λh=>ad) ad _ _ _ _ _ _ _ F1 [w.heap.size] bT b2 _ ⟨hS.ext.alloc _,hS.g.al λk ap=>m _ k (al k (ha.dj.2 (by simp[ap]))),ba,hS.h.al λk ap=>m _ k (al k (ha.dj.2 (by simp[ap]))),?_,?_,?_⟩
   .rcases hS.o with ac|⟨ac,N,aY,bR,cI⟩
    .exact .inl ac
    .exact .inr ⟨ac,N,aY,bR,cI.alloc _⟩
   .exact qx (F1:=F1) hS.nd al
   .intro k ap;rw[bI];rcases ha.dj.1 ap with ap|ap|ap|ap
    .have:=bB k (ha.dj.2 (by simp[ap]));omega
    .have:=LO.1 ap;omega
    .have:=bB k (ha.dj.2 (by simp[ap]));omega
    .have:=bB k (ha.dj.2 (by simp[ap]));omega
  ·
   cases u:(t == 1 && g == 2) with
   | false=>rw[u] at an;exact absurd an (by simp)
   | true=>
   rw[u] at an;simp only[Lw,beq_iff_eq] at u;obtain⟨t1,g2⟩:=u;subst t1 g2;have i0:i=7:=by simpa using an
   subst i0;refine⟨_,o7,λK hK=>?_⟩;rw[if_pos (by rfl)];refine iy.fill hS.t kX (.tmp 11) (.tmp 13) rfl (JJ _ _ _ _ _ _ _) (JK _ _ _ _ _ _ _) (Src.lM (hT.on (Fr.ext hS.ext)).holds (eI _) (lq _) ad) ad ad (λh=>by subst h;exact hT.none_) (λv ab R ba cd a5 r=>?_);have cq:=cd.size;have l:∀k∈F2,W.heap.size<=k:=λk ap=>(bB k (ha.dj.2 (by simp[ap]))).1;have S:Ext W ab:=Fr.low (M:=λk=>k∈F2) (Fr.trans (Fr.mono hS.ext λ_ h=>h.elim) cd) l;refine hK _ _ (λ_=>cd.mono λk ap=>by have:=l k ap;omega) ?_;rw[J5];have j:∀k,k∈F1++(F2++(bT++b2))->k∉F2->ab.heap[k]?=w.heap[k]?:=λk ap hn=>cd.block k (al k ap) hn;have n1:=List.nodup_append.1 hS.nd;have n2:=List.nodup_append.1 n1.2.1;have n3:=List.nodup_append.1 n2.2.1;refine ao 2 2 h b a9 ad ah ad ad ad _ _ _ _ _ _ _ F1 R bT b2 _ ⟨S,hS.g.al (λk ap=>j k (ha.dj.2 (by simp[ap])) (λac=>n1.2.2 k ap k (by simp[ac]) rfl)),ba,hS.h.al (λk ap=>j k (ha.dj.2 (by simp[ap])) (λac=>n2.2.2 k ac k (by simp[ap]) rfl)),?_,?_,?_⟩
   .rcases hS.o with ac|⟨ac,N,aY,bR,cI⟩
    .exact .inl ac
    .have q:∀k∈b2,k∉F2:=λk ap=>λac=>n2.2.2 k ac k (by simp[ap]) rfl;exact .inr ⟨ac,N,aY,bR,show _=_ from (j N (ha.dj.2 (by simp[bR])) (q N (by simp[bR]))).trans cI⟩
   .exact tu (A:=F1) hS.nd al a5 λk ap=>(r k ap).1
   .intro k ap;rcases ha.dj.1 ap with ap|ap|ap|ap
    .have:=bB k (ha.dj.2 (by simp[ap]));omega
    .have:=r k ap;have:W.heap.size<=k:=by rcases this.1 with ac|ac;exact l k ac;omega
     omega
    .have:=bB k (ha.dj.2 (by simp[ap]));omega
    .have:=bB k (ha.dj.2 (by simp[ap]));omega
  ·
   cases u:(h == 0) with
   | false=>rw[u] at an;exact absurd an (by simp)
   | true=>
   rw[u] at an;have cL:h=0:=by simpa using u
   have i0:i=8:=by simpa using an
   subst cL i0;obtain⟨y,_,ba⟩:=hS.h.begin rfl;subst y;refine⟨_,o8,λK hK=>?_⟩;rw[if_pos (by rfl)];refine IB (hK _ _ (λ_=>z _) ?_);rw[J6];refine ao g t 1 b a9 ht ad cF ad ad _ _ _ _ _ _ _ F1 F2 [w.heap.size] b2 _ ⟨hS.ext.alloc _,hS.g.al λk ap=>m _ k (al k (ha.dj.2 (by simp[ap]))),hS.t.al λk ap=>m _ k (al k (ha.dj.2 (by simp[ap]))),ba,?_,?_,?_⟩
   .rcases hS.o with ac|⟨ac,N,aY,bR,cI⟩
    .exact .inl ac
    .exact .inr ⟨ac,N,aY,bR,cI.alloc _⟩
   .have:=qx (F1:=F1++F2) (F2:=b2) (by simpa using hS.nd) (by simpa using al);simpa using this
   .intro k ap;rw[bI];rcases ha.dj.1 ap with ap|ap|ap|ap
    .have:=bB k (ha.dj.2 (by simp[ap]));omega
    .have:=bB k (ha.dj.2 (by simp[ap]));omega
    .have:=LO.1 ap;omega
    .have:=bB k (ha.dj.2 (by simp[ap]));omega
  ·
   cases u:(h == 1 && t == 2) with
   | false=>rw[u] at an;exact absurd an (by simp)
   | true=>
   rw[u] at an;simp only[Lw,beq_iff_eq] at u;obtain⟨ac,t2⟩:=u;have g2:=cF t2;subst ac t2 g2;have i0:i=11:=by simpa using an
   subst i0;refine⟨_,JU,λK hK=>?_⟩;rw[if_pos (by rfl)];refine iy.fill hS.h s3 (.tmp 15) (.tmp 17) rfl (JL _ _ _ _ _ _ _) (JM _ _ _ _ _ _ _) (hH.on (Fr.ext hS.ext)) ad ad JR (λv ab R ba cd a5 r=>?_);have cq:=cd.size;have l:∀k∈bT,W.heap.size<=k:=λk ap=>(bB k (ha.dj.2 (by simp[ap]))).1;have S:Ext W ab:=Fr.low (M:=λk=>k∈bT) (Fr.trans (Fr.mono hS.ext λ_ h=>h.elim) cd) l;refine hK _ _ (λ_=>cd.mono λk ap=>by have:=l k ap;omega) ?_;rw[J7];have j:∀k,k∈F1++(F2++(bT++b2))->k∉bT->ab.heap[k]?=w.heap[k]?:=λk ap hn=>cd.block k (al k ap) hn;have n1:=List.nodup_append.1 hS.nd;have n2:=List.nodup_append.1 n1.2.1;have n3:=List.nodup_append.1 n2.2.1;refine ao 2 2 2 b a9 ht ad ad ad ad _ _ _ _ _ _ _ F1 F2 R b2 _ ⟨S,hS.g.al (λk ap=>j k (ha.dj.2 (by simp[ap])) (λac=>n1.2.2 k ap k (by simp[ac]) rfl)),hS.t.al (λk ap=>j k (ha.dj.2 (by simp[ap])) (λac=>n2.2.2 k ap k (by simp[ac]) rfl)),ba,?_,?_,?_⟩
   .rcases hS.o with ac|⟨ac,N,aY,bR,cI⟩
    .exact .inl ac
    .have q:∀k∈b2,k∉bT:=λk ap=>λac=>n3.2.2 k ac k ap rfl;exact .inr ⟨ac,N,aY,bR,show _=_ from (j N (ha.dj.2 (by simp[bR])) (q N (by simp[bR]))).trans cI⟩
   .have:=tu (A:=F1++F2) (B:=bT) (C:=b2) (by simpa using hS.nd) (by simpa using al) a5 (λk ap=>(r k ap).1);simpa using this
   .intro k ap;rcases ha.dj.1 ap with ap|ap|ap|ap
    .have:=bB k (ha.dj.2 (by simp[ap]));omega
    .have:=bB k (ha.dj.2 (by simp[ap]));omega
    .have:=r k ap;have:W.heap.size<=k:=by rcases this.1 with ac|ac;exact l k ac;omega
     omega
    .have:=bB k (ha.dj.2 (by simp[ap]));omega
  ·
   cases b with
   | true=>simp at an
   | false=>
   have i0:i=15:=by simpa using an
   subst i0;refine⟨_,JV,λK hK=>?_⟩;rw[if_pos (by rfl)];refine Iy (hK _ _ (λ_=>z _) ?_);rw[q5];have bR:b2=[]:=by
    rcases hS.o with⟨_,_,h⟩|⟨h,_⟩
    .exact h
    .cases h
   subst bR;refine ao g t h true a9 ht ah cF E (by simp at J ⊢;omega) _ _ _ _ _ _ _ F1 F2 bT [w.heap.size] _ ⟨hS.ext.alloc _,hS.g.al λk ap=>m _ k (al k (ha.dj.2 (by simp[ap]))),hS.t.al λk ap=>m _ k (al k (ha.dj.2 (by simp[ap]))),hS.h.al λk ap=>m _ k (al k (ha.dj.2 (by simp[ap]))),.inr ⟨rfl,_,rfl,rfl,LX⟩,?_,?_⟩
   .have:=qx (F1:=F1++(F2++bT)) (F2:=[]) (by simpa using hS.nd) (by simpa using al);simpa using this
   .intro k ap;rw[bI];rcases ha.dj.1 ap with ap|ap|ap|ap
    .have:=bB k (ha.dj.2 (by simp[ap]));omega
    .have:=bB k (ha.dj.2 (by simp[ap]));omega
    .have:=bB k (ha.dj.2 (by simp[ap]));omega
    .have:=LO.1 ap;omega
end
end Go.Proofs.YtkhnkojkplbioaaGreat

/- Part 23 of the proof. No condition of its own. -/
import Derived.Test.YtnhhdaggkiomoaaGreatQ22
namespace Go.Proofs.YtnhhdaggkiomoaaGreat
open Go.RowKit Go.Proofs.Tryz
set_option maxRecDepth 1000000
set_option maxHeartbeats 25600000
set_option linter.unusedVariables false
variable{F F1 F2:List Nat}{xs:List Value}{m n:Nat}{e:TypeId}{v1 v2:Value}{ab:World}
def ir(w:World)(p:Prop)(e:Ending)(ab:World):Prop:=∃b:Bool,e=.returned (.bool b)∧(b=true↔p)∧Ext w ab
theorem tN{f g:al}:f=g↔f.proc=g.proc∧f.pc=g.pc∧f.ints=g.ints∧f.av=g.av:=by
 cases f;cases g;simp
namespace Cw
theorem eQ{p:Prop}(h:p:=by
 refine b3 ?_;generalize cr:World.setCell _ _ _=Y;have av:=ke 0 [.int .i64 g.proc,.int .i64 g.pc,.slice dh z db,.slice KA v kc] aQ.2.2 cr;have bn:Ext wr Y:=Fr.low (M:=fun b=>¬b<wr.heap.size) (Fr.trans aQ.1 (av.2.mono fun b O=>ad)) fun b O=>ad;have bt:aq Y o 73 #[.int .i64 f.proc,.int .i64 f.pc,.slice IA x ic,.slice S y lc]:=aQ.2.1.on av.2 bf;have dc:aq Y gc 73 #[.int .i64 g.proc,.int .i64 g.pc,.slice dh z db,.slice KA v kc]:=av.1;have bC:=aB bn bt dc;obtain⟨e0,a6,aP⟩:=bt.two;clear f0 dL dN;obtain⟨f0,dL,dN⟩:=dc.two;have bR:∀{q:Prop},¬q→(l=k→q)→(false=true↔l=k):=fun ac av=>⟨fun h=>(by cases h),fun h=>absurd (av h) ac⟩
 have N:l=k→f=g:=fun h=>by have ac:=bV.1;have av:=bV.2.1;rw[h,av] at ac;injection ac with ac;exact ac.symm
 have aA:=ag N trivial;clear cr av bn bt dc bR N;have aL:Ext w Y:=(ah.1.trans bq.1).trans bC.1;have ab:=ae aL;clear aL;by_cases ac:f.proc=g.proc
 case neg=>
  have q5:(f.proc != g.proc)=true:=by simpa using ac
  have bv:=ae ac;clear ac;exact zn
 have q5:(f.proc != g.proc)=false:=by simpa using ac
 have H1:=ae ac;clear ac;by_cases av:f.pc=g.pc
 case neg=>
  have di:(f.pc != g.pc)=true:=by simpa using av
  have bv:=ae av;clear av;exact zn
 have di:(f.pc != g.pc)=false:=by simpa using av
 have bG:=ae av;clear av;go_wp2_with(fail);have s:=bC.1;refine(h7 IA dh x ic z db f.ints g.ints Y (bV.2.2.1.on (Fr.ext s)) (bV.2.2.2.2.1.on (Fr.ext s)) ad).mono ?_;rintro r aT ⟨rfl,bg⟩;clear s;have a4:=ae (show Ext Y aT from Fr.of bg);clear bg e0 a6 aP f0 dL dN;obtain⟨e0,a6,aP⟩:=(bC.2.1.ai a4.o).two;obtain⟨f0,dL,dN⟩:=(bC.2.2.ai a4.o).two
 cases aV:decide (f.ints=g.ints) with
 | false=>
  have bv:=ae (of_decide_eq_false aV);clear aV;go_wp2_with(fail);go_ret
  exact⟨false,rfl,⟨fun h=>(by cases h),fun h=>absurd (by rw[aA.1 h]) bv.o⟩,ab.trans a4.o⟩
 | true=>
  have bT:=ae (of_decide_eq_true aV);clear aV;go_wp2_with(fail);have s:=bC.1.trans a4.o;refine(h7 S KA y lc v kc f.av g.av aT (bV.2.2.2.1.on (Fr.ext s)) (bV.2.2.2.2.2.on (Fr.ext s)) ad).mono ?_;rintro r b6 ⟨rfl,ct⟩;clear s;have a9:=ae (show Ext aT b6 from Fr.of ct);clear ct e0 a6 aP f0 dL dN
  cases bz:decide (f.av=g.av) with
  | false=>
   have bv:=ae (of_decide_eq_false bz);clear bz;go_wp2_with(fail);go_ret
   exact⟨false,rfl,⟨fun h=>(by cases h),fun h=>absurd (by rw[aA.1 h]) bv.o⟩,(ab.trans a4.o).trans a9.o⟩
  | true=>
   have b8:=ae (of_decide_eq_true bz);clear bz;go_wp2_with(fail);go_roundw
   case rel=>
    have aM:f=g:=tN.2 ⟨H1.o,bG.o,bT.o,b8.o⟩;refine⟨i+1,by go_num,ad,((bq.1.trans bC.1).trans a4.o).trans a9.o,fun j bi=>?_⟩;by_cases az:j=i
    ·rw[az,bV.1,bV.2.1,aM]
    ·exact bq.2 j ad
   case measure=>exact aH
 ):p:=h
theorem AU{p:Prop}(h:p:=by
 have U:x≤100000:=ad;have aJ:y≤100000:=ad;have bV:=cT G u J cf L ci;clear aw T cx bX G u J cf L ci aN a2 aW aO a1 b0 ar;obtain⟨ws,m1⟩:∃ws,ws=wr.heap.size:=⟨_,rfl⟩
 have b7:b1<ws:=ad;have c8:ck<ws:=ad;have aR:w.heap.size<ws:=ad;have aS:w.heap.size+1<ws:=ad;have aE:=ae m1;clear m1;go_upto_region 6 with(fail);refine q4 (fun b=>¬b<ws) [13] (.free 0 (.held 1 (.free 2 (.free 3 (.held 4 (.free 5 (.held 6 (.free 7 (.free 8 (.held 9 (.pick [10,11] (fun i=>bif i == 10 then .pick [11] (fun _=>.pick [12] (fun _=>.pick [13] (fun _=>.stop))) else .pick [10] (fun _=>.pick [12] (fun _=>.pick [13] (fun _=>.stop))))))))))))))) ?_;refine tf ?_;refine mV ?_
 iterate 2 refine tf ?_
 refine mV ?_;refine tf ?_;refine mV ?_
 iterate 2 refine tf ?_
 refine mV ?_;refine l8 (P:=?P1) (ops:=?o1) (Q:=?q1) (R:=?r1) (tails:=?t1) (rest:=.pick [12] (fun _=>.pick [13] (fun _=>.stop))) (aa:=?aa) (C:=fun(o gc:Nat) V=>Ext wr V∧aq V o 73 #[.int .i64 0,.int .i64 0,.slice none 0 0,.slice none 0 0]∧aq V gc 73 #[.int .i64 0,.int .i64 0,.slice none 0 0,.slice none 0 0]∧o≠gc∧wr.heap.size≤o∧wr.heap.size≤gc) (fun key=>?main) ?key
 case main=>
  refine aY ?_ ?_
  ·
   refine dP ?_;refine ao ?_;refine dP ?_;generalize hV:World.drew (World.alloc _ _)=V;have hC:Ext wr V∧aq V wr.heap.size 73 #[.int .i64 0,.int .i64 0,.slice none 0 0,.slice none 0 0]∧aq V (wr.heap.size+1) 73 #[.int .i64 0,.int .i64 0,.slice none 0 0,.slice none 0 0]∧wr.heap.size≠wr.heap.size+1∧wr.heap.size≤wr.heap.size∧wr.heap.size≤wr.heap.size+1:=by
    exact zm
   clear hV;obtain⟨cv,bP,cU,H,b2,cO⟩:=hC;generalize bB:wr.heap.size+1=g2 at cU H cO ⊢;generalize a7:wr.heap.size=cd at bP H ⊢;exact key cd g2 V ⟨cv,bP,cU,H,ad,ad⟩
  ·
   refine dP ?_;refine ao ?_;refine dP ?_;generalize hV:World.drew (World.alloc _ _)=V;have hC:Ext wr V∧aq V wr.heap.size 73 #[.int .i64 0,.int .i64 0,.slice none 0 0,.slice none 0 0]∧aq V (wr.heap.size+1) 73 #[.int .i64 0,.int .i64 0,.slice none 0 0,.slice none 0 0]∧wr.heap.size+1≠wr.heap.size∧wr.heap.size≤wr.heap.size∧wr.heap.size≤wr.heap.size+1:=by
    exact zm
   clear hV;obtain⟨cv,bP,cU,H,b2,cO⟩:=hC;generalize bB:wr.heap.size+1=g2 at cU H cO ⊢;generalize a7:wr.heap.size=cd at bP H ⊢;exact key g2 cd V ⟨cv,cU,bP,H,ad,ad⟩
 intro o gc V ⟨bj,aG,ay,bf,aI,a2⟩;obtain⟨e0,a6,aP⟩:=aG.two;obtain⟨f0,dL,dN⟩:=ay.two;have ax:=cT bj aG ay bf aI a2;clear bj aG ay a0 ai af a8 am aF c0 c1 c2 c3 d0 d1 d2 d3;refine ao ?_;refine aC rfl (fun K hK=>?_) rfl;go_simp;refine dz hK (((Lo.setCell (.inl (show ¬o<ws from by have:=aE.o;omega)) _).setCell (.inl (show ¬o<ws from by have:=aE.o;omega)) _).setCell (.inl (show ¬o<ws from by have:=aE.o;omega)) _ |>.setCell (.inl (show ¬o<ws from by have:=aE.o;omega)) _) ?_;clear hK K;refine Hv (fun X=>Fr (fun b=>¬b<wr.heap.size) wr X∧aq X o 73 #[.int .i64 f.proc,.int .i64 f.pc,.slice IA x ic,.slice S y lc]∧aq X gc 73 #[.int .i64 0,.int .i64 0,.slice none 0 0,.slice none 0 0]) ?_ (fun X hX=>?_)
 ·have ac:=ke 0 [.int .i64 f.proc,.int .i64 f.pc,.slice IA x ic,.slice S y lc] ax.2.1 rfl;refine⟨Fr.trans (ax.1.mono fun _ h=>h.elim) (ac.2.mono fun b O=>by have:=ax.2.2.2.2.1;omega),ac.1,ax.2.2.1.on ac.2 (Ne.symm bf)⟩
 have aQ:=ae hX;clear e0 a6 aP f0 dL dN;obtain⟨f0,dL,dN⟩:=hX.2.2.two;clear hX;exact fj
 ):p:=h
theorem pr{p:Prop}(h:p:=by
 have ah:=cI aw bs bF (bm.1.on (Fr.ext aw)) (bm.2.on (Fr.ext aw));obtain⟨a0,ai,af⟩:=bs.two;obtain⟨a8,am,aF⟩:=bF.two;clear ba aw bs bF bm;by_cases I:n=m
 case neg=>
  have q1:((n:Int) != (m:Int))=true:=by simp;omega
  have aj:=ae I;clear I;go_wp2_with(fail);go_ret;exact⟨false,rfl,⟨fun h=>(by cases h),fun h=>absurd (by rw[←b4.1,←b4.2.1,h]) aj.o⟩,ah.1⟩
 subst I;have q1:((n:Int) != (n:Int))=false:=by simp
 clear a0 ai af a8 am aF;obtain⟨a0,ai,af⟩:=ah.2.1.two;obtain⟨a8,am,aF⟩:=ah.2.2.1.two;go_wp2_with(fail);clear a0 ai af a8 am aF;go_loopw [5] (fun cu wr=>∃i:Nat,cu=.int .i64 i∧i≤n∧Ext W wr∧∀j,j<i→l[j]?=k[j]?) (fun cu _=>n - (intOf cu).toNat)
 case atStart=>exact⟨0,rfl,ad,Lo,fun j bi=>ad⟩
 case round=>
  obtain⟨i,rfl,an,aw,T⟩:=hrel;have bq:=ag aw T;obtain⟨a0,ai,af⟩:=(ah.2.1.ai aw).two;obtain⟨a8,am,aF⟩:=(ah.2.2.1.ai aw).two;by_cases ak:i<n
  ·obtain⟨b1,c6,f,IA,x,ic,S,y,lc,rfl,cx,G,c0,c1,c2,c3,aN,a2,J,cf⟩:=(ah.2.2.2.1.on (Fr.ext aw)).pQ ak;obtain⟨ck,go,g,dh,z,db,KA,v,kc,rfl,bX,u,d0,d1,d2,d3,aW,aO,L,ci⟩:=(ah.2.2.2.2.on (Fr.ext aw)).pQ ak;exact AT
  ·obtain rfl:i=n:=ad;clear aw T;go_wp2_with(fail);go_ret;refine⟨true,rfl,⟨fun _=>?_,fun _=>rfl⟩,ah.1.trans bq.1⟩;apply List.ext_getElem?
   intro j;exact Be
 ):p:=h
theorem vr{p:Prop}(h:p:=by
 go_enter func29,ntmps29;exact pq
 ):p:=h
end Cw
open Cw in
theorem uy(A B:Ls)(n c m aK:Nat)(l k:List al)(w:World)(hl:Sl w (au w) A n (l.map er))(ap:Sl w (au w) B m (k.map er))(hn:n≤1000000)(a1:∀f∈l,f.ints.length≤100000∧f.av.length≤100000) :
  Calls prog 29 #[.agg #[.slice A n c],.agg #[.slice B m aK]] w (ir w (l=k)):=by
 exact vq
theorem Eu{s t:aj}:s=t↔s.fault=t.fault∧s.globals=t.globals∧s.table=t.table∧s.threads=t.threads:=by
 cases s;cases t
 simp only[aj.mk.injEq];constructor
 ·rintro⟨ac,av,aV,bz⟩;exact⟨bz,ac,av,aV⟩
 ·rintro⟨ac,av,aV,bz⟩;exact⟨av,aV,bz,ac⟩
namespace Cx
theorem pr{p:Prop}(h:p:=by
 have ah:=cI aw bs bF (bm.1.on aw) (bm.2.1.on aw);obtain⟨a0,ai,af⟩:=bs.two;obtain⟨a8,am,aF⟩:=bF.two;clear ba aw bs bF;by_cases ac:s.fault=Q.fault
 case neg=>
  have q5:(s.fault != Q.fault)=true:=by simpa using ac
  have bv:=ae ac;clear ac;go_wp2_with(fail);go_ret;exact⟨false,rfl,⟨fun h=>(by cases h),fun h=>absurd (by rw[h]) bv.o⟩,ah.1⟩
 have q5:(s.fault != Q.fault)=false:=by simpa using ac
 have H1:=ae ac;clear ac;go_wp2_with(fail);refine(h7 GA bH gn gc l k s.globals Q.globals W ah.2.2.2.1.at_.g ah.2.2.2.2.at_.g ad).mono ?_;rintro r aT ⟨rfl,bg⟩;have a4:=ae (show Ext W aT from Fr.of bg);clear bg a0 ai af a8 am aF;obtain⟨a0,ai,af⟩:=(ah.2.1.ai a4.o).two;obtain⟨a8,am,aF⟩:=(ah.2.2.1.ai a4.o).two
 cases av:decide (s.globals=Q.globals) with
 | false=>
  have bv:=ae (of_decide_eq_false av);clear av;go_wp2_with(fail);go_ret
  exact⟨false,rfl,⟨fun h=>(by cases h),fun h=>absurd (by rw[h]) bv.o⟩,ah.1.trans a4.o⟩
 | true=>
 have bG:=ae (of_decide_eq_true av);clear av;go_wp2_with(fail);refine(Eh TA ab tn tc aI au s.table Q.table aT (ah.2.2.2.1.on a4.o).at_.t.holds (ah.2.2.2.2.on a4.o).at_.t.holds ad).mono ?_;rintro r b6 ⟨rfl,ct⟩;have a9:=ae (show Ext W b6 from a4.trans (Fr.of ct));clear ct a0 ai af a8 am aF a4;obtain⟨a0,ai,af⟩:=(ah.2.1.ai a9.o).two;obtain⟨a8,am,aF⟩:=(ah.2.2.1.ai a9.o).two
 cases aV:decide (s.table=Q.table) with
 | false=>
  have bv:=ae (of_decide_eq_false aV);clear aV;go_wp2_with(fail);go_ret
  exact⟨false,rfl,⟨fun h=>(by cases h),fun h=>absurd (by rw[h]) bv.o⟩,ah.1.trans a9.o⟩
 | true=>
 have bT:=ae (of_decide_eq_true aV);clear aV;by_cases I:hn=hm
 case neg=>
  have di:((hn:Int) != (hm:Int))=true:=by simp;omega
  have bv:=ae I;clear I;go_wp2_with(fail);go_ret;exact⟨false,rfl,⟨fun h=>(by cases h),fun h=>absurd (by rw[←bm.2.2.2.1,←bm.2.2.2.2,h]) bv.o⟩,ah.1.trans a9.o⟩
 subst I;have di:((hn:Int) != (hn:Int))=false:=by simp
 have dc:hn≤1000:=by have:=bm.2.2.1.h;have:=bm.2.2.2.1;omega
 go_wp2_with(fail);clear a0 ai af a8 am aF;go_loopw [5] (fun cu wr=>∃i:Nat,cu=.int .i64 i∧i≤hn∧Ext W wr∧∀j,j<i→s.threads[j]?=Q.threads[j]?) (fun cu _=>hn - (intOf cu).toNat)
 case atStart=>exact⟨0,rfl,ad,a9.o,fun j bi=>ad⟩
 case round=>
  obtain⟨i,rfl,an,aw,T⟩:=hrel;clear a9;have bq:=ag aw T;obtain⟨a0,ai,af⟩:=(ah.2.1.ai aw).two;obtain⟨a8,am,aF⟩:=(ah.2.2.1.ai aw).two;by_cases ak:i<hn
  ·obtain⟨b1,c6,f,FA,x,ic,rfl,cx,G,c0,aN,n⟩:=(ah.2.2.2.1.on aw).at_.h.lA ak;obtain⟨ck,go,gt,dh,z,db,rfl,bX,u,d0,aW,bM⟩:=(ah.2.2.2.2.on aw).at_.h.lA ak;have bO:b1<wr.heap.size:=cx;have Z:ck<wr.heap.size:=bX;have a1:=bm.2.2.1.f f (KJ G);have b0:x=f.length:=by have:=n.1;simpa using this.symm
   have U:x≤1000000:=ad;have bV:=cI G u n bM a1.2;clear aw T cx bX G u n bM aN aW a1 b0;go_upto_region 6 with(fail);refine eK (fun _=>False) [(0,3),(1,0),(2,3),(3,3),(4,0),(5,3),(6,0),(7,3),(8,3),(9,0),(10,2),(11,3)] ?_;refine pf ?_;refine ph ?_
   iterate 2 refine pf ?_
   refine ph ?_;refine pf ?_;refine ph ?_
   iterate 2 refine pf ?_
   refine ph ?_;refine ax rfl (fun K hK=>?_);go_simp;have bA:Ext wr wr.drew:=Lo.drew;refine(uy FA dh x ic z db f gt wr.drew (bV.2.2.1.on (Fr.ext bA)) (bV.2.2.2.1.on (Fr.ext bA)) U bV.2.2.2.2).mono ?_;rintro r cN ⟨b,rfl,O,cw⟩;have cj:=ae (Fr.aF cw);have b2:=ae O;clear O cw bA a0 ai af a8 am aF c0 d0;refine dO hK ?_;clear hK K;refine pf ?_;refine aE ?_;have co:s=Q→f=gt:=fun h=>by have ac:=bV.1;have av:=bV.2.1;rw[h,av] at ac;injection ac with ac;exact ac.symm
   have aL:=ae co;clear co
   cases b with
   | false=>
    go_wp2_with(fail);go_ret
    exact⟨false,rfl,⟨fun h=>(by cases h),fun h=>absurd (b2.2 (aL.o h)) (by simp)⟩,(ah.1.trans bq.1).trans cj.o⟩
   | true=>
    go_wp2_with(fail);go_roundw
    case rel=>
     refine⟨i+1,by go_num,ad,bq.1.trans cj.o,fun j bi=>?_⟩;by_cases az:j=i
     ·rw[az,bV.1,bV.2.1,b2.1 rfl]
     ·exact bq.2 j ad
    case measure=>exact aH
  ·obtain rfl:i=hn:=ad;clear aw T;go_wp2_with(fail);go_ret;refine⟨true,rfl,⟨fun _=>Eu.2 ⟨H1.o,bG.o,bT.o,?_⟩,fun _=>rfl⟩,ah.1.trans bq.1⟩;apply List.ext_getElem?
   intro j;by_cases bi:j<i
   ·exact bq.2 j bi
   ·rw[List.getElem?_eq_none (aD bm.2.2.2.1),List.getElem?_eq_none (aD bm.2.2.2.2)]
 ):p:=h
end Cx
open Cx in
theorem IK(s Q:aj)(q ar:SV)(w:World)(h:q.Ok w s)(F:ar.Ok w Q)(a1:Small s) :
  Calls prog 15 #[.agg (q.val s),.agg (ar.val Q)] w (ir w (s=Q)):=by
 obtain⟨GA,gn,gc,TA,tn,tc,HA,hn,hc⟩:=q;obtain⟨bH,l,k,ab,aI,au,b2,hm,hd⟩:=ar;have rD:gn≤1000:=by have ac:=h.at_.g.1;have av:=a1.g;rw[KK] at ac;have aV:s.globals.length=gn:=ac;omega
 have tq:tn≤5000:=by have ac:=h.at_.t.1;have av:=a1.t;rw[KK] at ac;have aV:s.table.length=tn:=ac;omega
 have cE:s.threads.length=hn:=by have ac:=h.at_.h.1;rw[KK] at ac;exact ac
 have ce:Q.threads.length=hm:=by have ac:=F.at_.h.1;rw[KK] at ac;exact ac
 have bm:=cI h F a1 cE ce;clear h F a1 cE ce;dsimp only[SV.val];go_enter func15,ntmps15;exact pq
def iu(e:TypeId)(z n:Nat)(xs:List Value)(w:World)(st:Nat)(v1 v2:Value)(F:List Nat):Prop:=
 (st=0∧v1=undef∧v2=undef∧F=[])∨(st=1∧v2=undef∧∃A,v1=.slice A 0 0∧Own w e z A 0 0 [] F)∨(st=2∧∃A c,v2=.slice A n c∧Own w e z A n c xs F)
theorem iu.ak{e:TypeId}{z n:Nat}{xs:List Value}{w ab:World}{st:Nat}{v1 v2:Value}{F:List Nat}(h:iu e z n xs w st v1 v2 F)(ap:∀b∈F,ab.heap[b]?=w.heap[b]?):iu e z n xs ab st v1 v2 F:=by
 rcases h with h|⟨ac,av,A,aV,bz⟩|⟨ac,A,c,av,aV⟩
 ·exact .inl h
 ·exact .inr (.inl ⟨ac,av,A,aV,bz.ak ap⟩)
 ·exact .inr (.inr ⟨ac,A,c,av,aV.ak ap⟩)
def xx(g t h:Nat)(b:Bool):List Nat:=
 (bif g == 0 then [0] else [])++((bif g == 1 then [3] else [])++((bif t == 0 then [4] else [])++((bif t == 1 && g == 2 then [7] else [])++((bif h == 0 then [8] else [])++((bif h == 1 && t == 2 then [11] else [])++(bif b then [] else [15]))))))
def GF(b:Bool):PT:=bif b then .pick [16] (fun _=>.stop) else .pick [15] (fun _=>.pick [16] (fun _=>.stop))
def jg:Nat→Nat→Nat→Nat→Bool→PT
 | 0,_,_,_,_=>.stop
 | f+1,g,t,h,b=>bif h == 2 then .free 14 (GF b) else .pick (xx g t h b) fun i=>
   bif i == 0 then jg f 1 t h b else bif i == 3 then jg f 2 t h b else bif i == 4 then jg f g 1 h b else bif i == 7 then jg f g 2 h b else bif i == 8 then jg f g t 1 b else bif i == 11 then jg f g t 2 b else jg f g t h true
structure g4(W:World)(s:aj)(gn tn hn:Nat)(hx:List Value)(w:World)(g t h:Nat)(b:Bool)(bn bp v10 v11 aF aI aG:Value)(F1 F2 bQ cb:List Nat):Prop where
 ext:Ext W w
 g:iu 3 1 gn (s.globals.map dc) w g bp v10 F1
 t:iu 102 2 tn (s.table.flatMap bJ) w t v11 aF F2
 h:iu 69 1 hn hx w h aI aG bQ
 o:(b=false∧bn=undef∧cb=[])∨(b=true∧∃N,bn=.pointer (some ⟨N,0,none⟩)∧cb=[N]∧aq w N 40 #[.slice none 0 0,.slice none 0 0,.slice none 0 0,.int .i64 0])
 nd:(F1++(F2++(bQ++cb))).Nodup
 lo:∀k∈F1++(F2++(bQ++cb)),W.heap.size≤k∧k<w.heap.size
theorem p5(h:(F1++F2).Nodup)(hl:∀k∈F1++F2,k<m):(F1++(m::F2)).Nodup:=
 (List.perm_middle (a:=m) (l₁:=F1) (l₂:=F2)).nodup_iff.2 (List.nodup_cons.2 ⟨fun h=>by have:=hl m h;omega,h⟩)
theorem sU{A B q C:List Nat}(h:(A++(B++C)).Nodup)(hl:∀k∈A++(B++C),k<m)(aR:q.Nodup)(hn:∀k∈q,k∈B∨m≤k):(A++(q++C)).Nodup:=by
 have ac:=List.nodup_append.1 h;have av:=List.nodup_append.1 ac.2.1;refine List.nodup_append.2 ⟨ac.1,List.nodup_append.2 ⟨aR,av.2.1,fun x hx y bb c=>?_⟩,fun x hx y bb c=>?_⟩
 ·subst c;rcases hn x hx with aV|aV
  ·exact av.2.2 x aV x bb rfl
  ·have:=hl x (by simp[bb]);omega
 ·subst c;rcases KP.1 bb with bb|bb
  ·rcases hn x bb with aV|aV
   ·exact ac.2.2 x hx x (by simp[aV]) rfl
   ·have:=hl x (by simp[hx]);omega
  ·exact ac.2.2 x hx x (by simp[bb]) rfl
section
variable {a:Act} {w:World} {K:Act→World→Prop} {Q:Exit→Act→World→Prop} {dst:Option Nat} {ty:TypeId} {p:String} {ak:Array Edge}
theorem EI(h:K (a.put dst (.slice (some ⟨w.heap.size,0,none⟩) 0 0)) (w.alloc (.cells #[] 3))):Oper.wp prog ⟨dst,.buildSlice 22 0 #[],ty,p,ak,none⟩ a w K Q:=by
 go_simp;exact h
theorem HO(h:K (a.put dst (.slice (some ⟨w.heap.size,0,none⟩) 0 0)) (w.alloc (.cells #[] 102))):Oper.wp prog ⟨dst,.buildSlice 37 0 #[],ty,p,ak,none⟩ a w K Q:=by
 go_simp;exact h
theorem HP(h:K (a.put dst (.slice (some ⟨w.heap.size,0,none⟩) 0 0)) (w.alloc (.cells #[] 69))):Oper.wp prog ⟨dst,.buildSlice 38 0 #[],ty,p,ak,none⟩ a w K Q:=by
 go_simp;exact h
theorem HN(h:K (a.put dst (.pointer (some ⟨w.heap.size,0,none⟩))) (w.alloc (.cells #[.slice none 0 0,.slice none 0 0,.slice none 0 0,.int .i64 0] 40))):Oper.wp prog ⟨dst,.alloc 40,ty,p,ak,none⟩ a w K Q:=by
 go_simp;exact h
end
theorem iu.begin{z:Nat}{w:World}(h:iu e z n xs w 0 v1 v2 F)(hw:w.alloc (.cells #[] e)=ab):F=[]∧v2=undef∧iu e z n xs ab 1 (.slice (some ⟨w.heap.size,0,none⟩) 0 0) v2 [w.heap.size]:=by
 rcases h with⟨_,_,av,aV⟩|⟨h,_⟩|⟨h,_⟩
 ·subst hw;exact⟨aV,av,.inr (.inl ⟨rfl,av,_,rfl,⟨World.ownsRow_made w #[] 0 (Ld _) (Ld _) (by simp),rfl⟩⟩)⟩
 ·cases h
 ·cases h
theorem iu.fill{P:Program}{t:TypeId}{z:Value}{size bytes:Nat}{w:World}(h:iu e size n xs w 1 v1 v2 F){o:Oper}{a:Act}{K:Act→World→Prop}{Q:Exit→Act→World→Prop}(bw:ch P t e z size bytes)(s x:Operand)
  (bn:o.op=.call {callee:=.builtin .append,args:=#[s,x],argTypes:=#[t,t]}) (hs:a.eval s=v1) {A:Ls} {c:Nat} (hx:a.eval x=.slice A n c) (a5:Src w size A n xs) (O:n*bytes≤140737488355328) (y:n≤140737488355328) (d:A=none→n=0)
  (hK:∀v ab R,iu e size n xs ab 2 v1 v R→Fr (fun k=>k∈F) w ab→R.Nodup→(∀k∈R,(k∈F∨w.heap.size≤k)∧k<ab.heap.size)→K (a.put o.dst v) ab):o.wp P a w K Q:=by
 rcases h with⟨h,_⟩|⟨_,_,B,bM,E⟩|⟨h,_⟩
 ·cases h
 ·rw[bM] at hs;refine j8 _ bw s x bn 0 _ 0 [] hs E.row A n c xs hx a5 (by rw[KY];exact O) ad (Ld _) d fun G ab bP cU H=>?_;simp only[KY,Lh] at bP;obtain⟨I,aK,rfl,hc,_⟩:=b2 bP;refine hK _ ab (bq I n aK) (.inr (.inr ⟨rfl,I,aK,rfl,bP,rfl⟩)) (Lo.grown cU fun g a2=>.inl (by rw[E.eq];simp[a2])) (eW _ _ _) fun b O=>?_;have aX:(Value.slice I n aK).ownBlock=some b:=by simpa using O
  refine⟨?_,(bP.lt b aX).2⟩;rcases H with H|H
  ·rw[H] at aX;exact .inl (by rw[E.eq];simp[aX])
  ·rw[H] at aX;injection aX with aX;right;omega
 ·cases h
section
variable {ops:Array Oper} {Q:Exit→Act→World→Prop} {W:World} {s:aj} {gn tn hn gc tc hc:Nat} {GA TA HA:Ls} {hx:List Value} {ws:Nat} {aa:Value→Value→Value→Value→Value→Value→Value→Act}
 {p0 p3 p4 p7 p8 p11 p15:String} {a0 a3 a4 a7 a8 a11 a15:Array Edge} {t15:TypeId}
theorem g4.dh{bQ cb:List Nat}{k:Nat}:k∈F1++(F2++(bQ++cb))↔k∈F1∨k∈F2∨k∈bQ∨k∈cb:=by simp only[KP]
theorem World.kI(w:World)(o:Obj):(w.alloc o).heap.size=w.heap.size+1:=by first|(simp;done)|(cases o<;>simp;done)|(unfold World.alloc;simp;done)|rfl
theorem g4.ez{w:World}{M:List Nat}(J:Fr (fun k=>k∈M) w ab)(ak:∀k∈F,k<w.heap.size)(hd:∀k∈F,k∉M):∀k∈F,ab.heap[k]?=w.heap[k]?:=fun k ap=>J.block k (ak k ap) (hd k ap)
theorem E1(hG:Sl W (au W) GA gn (s.globals.map D.i))(hT:Sl W (au W) TA tn (s.table.map lj))(hH:Src W 1 HA hn hx)(Je:HA=none→hn=0)(rD:gn≤100000)(tq:tn≤100000)(ot:hn≤100000)(m1:ws≤W.heap.size)
  (o0:ops[0]?=some ⟨some 7,.buildSlice 22 0 #[],22,p0,a0,none⟩)
  (o3:ops[3]?=some ⟨some 10,.call {callee:=.builtin .append,args:=#[.tmp 7,.tmp 9],argTypes:=#[22,22]},22,p3,a3,none⟩)
  (o4:ops[4]?=some ⟨some 11,.buildSlice 37 0 #[],37,p4,a4,none⟩)
  (o7:ops[7]?=some ⟨some 14,.call {callee:=.builtin .append,args:=#[.tmp 11,.tmp 13],argTypes:=#[37,37]},37,p7,a7,none⟩)
  (o8:ops[8]?=some ⟨some 15,.buildSlice 38 0 #[],38,p8,a8,none⟩)
  (Jh:ops[11]?=some ⟨some 18,.call {callee:=.builtin .append,args:=#[.tmp 15,.tmp 17],argTypes:=#[38,38]},38,p11,a11,none⟩)
  (Ji:ops[15]?=some ⟨some 5,.alloc 40,t15,p15,a15,none⟩)
  (q5:∀a b c d e f g x,(aa a b c d e f g).put (some 5) x=aa x b c d e f g) (q7:∀a b c d e f g x,(aa a b c d e f g).put (some 7) x=aa a x c d e f g) (EL:∀a b c d e f g x,(aa a b c d e f g).put (some 10) x=aa a b x d e f g)
  (IJ:∀a b c d e f g x,(aa a b c d e f g).put (some 11) x=aa a b c x e f g) (Js:∀a b c d e f g x,(aa a b c d e f g).put (some 14) x=aa a b c d x f g) (Jt:∀a b c d e f g x,(aa a b c d e f g).put (some 15) x=aa a b c d e x g) (Ju:∀a b c d e f g x,(aa a b c d e f g).put (some 18) x=aa a b c d e f x)
  (e7:∀a b c d e f g,(aa a b c d e f g).eval (.tmp 7)=b) (e9:∀a b c d e f g,(aa a b c d e f g).eval (.tmp 9)=.slice GA gn gc) (I6:∀a b c d e f g,(aa a b c d e f g).eval (.tmp 11)=d) (I7:∀a b c d e f g,(aa a b c d e f g).eval (.tmp 13)=.slice TA tn tc)
  (I8:∀a b c d e f g,(aa a b c d e f g).eval (.tmp 15)=f) (I9:∀a b c d e f g,(aa a b c d e f g).eval (.tmp 17)=.slice HA hn hc)
  (lU:∀b bn bp v10 v11 aF aI aG F1 F2 bQ cb w,g4 W s gn tn hn hx w 2 2 2 b bn bp v10 v11 aF aI aG F1 F2 bQ cb→cP prog ops Q (Fr (fun k=>¬k<ws)) [16] (.free 14 (GF b)) (aa bn bp v10 v11 aF aI aG) w) :
  ∀(n g t h:Nat) (b:Bool),g≤2→t≤2→h≤2→(t=2→g=2)→(h=2→t=2)→7<n+g+t+h+b.toNat→∀bn bp v10 v11 aF aI aG F1 F2 bQ cb w,g4 W s gn tn hn hx w g t h b bn bp v10 v11 aF aI aG F1 F2 bQ cb→
   cP prog ops Q (Fr (fun k=>¬k<ws)) [16] (jg n g t h b) (aa bn bp v10 v11 aF aI aG) w:=by
 intro n
 induction n with
 | zero=>intro g t h b a2 ht ah _ _ hn;cases b<;>simp at hn<;>omega
 | succ n ao=>
  intro g t h b a2 ht ah bO E J bn bp v10 v11 aF aI aG F1 F2 bQ cb w hS;unfold jg;by_cases av:h=2
  ·have ca:=E av;have bB:=bO ca;subst av ca bB;exact lU _ _ _ _ _ _ _ _ _ _ _ _ _ hS
  have bg:(h == 2)=false:=by simpa using av
  rw[bg];have bv:=hS.lo;have U:=hS.ext.size;have ak:∀k∈F1++(F2++(bQ++cb)),k<w.heap.size:=fun k ap=>(bv k ap).2;have z:∀o:Obj,Fr (fun k=>¬k<ws) w (w.alloc o):=fun o=>Lo.alloc o;have m:∀(o:Obj) (k:Nat),k<w.heap.size→(w.alloc o).heap[k]?=w.heap[k]?:=fun o k ap=>Below.heap_alloc w o k ap;have bW:∀o:Obj,(w.alloc o).heap.size=w.heap.size+1:=fun o=>World.kI w o;intro i an;simp only[xx,KP] at an;rcases an with an|an|an|an|an|an|an
  ·
   cases u:(g == 0) with
   | false=>rw[u] at an;exact absurd an (by simp)
   | true=>
   rw[u] at an;have c8:g=0:=by simpa using u
   have i0:i=0:=by simpa using an
   subst c8 i0;obtain⟨y,_,a5⟩:=hS.g.begin rfl;subst y;refine⟨_,o0,fun K hK=>?_⟩;rw[if_pos (by rfl)];refine EI (hK _ _ (fun _=>z _) ?_);rw[q7];refine ao 1 t h b ad ht ah ad E ad _ _ _ _ _ _ _ [w.heap.size] F2 bQ cb _ ⟨hS.ext.alloc _,a5,hS.t.ak fun k ap=>m _ k (ak k (g4.dh.2 (by simp[ap]))),hS.h.ak fun k ap=>m _ k (ak k (g4.dh.2 (by simp[ap]))),?_,?_,?_⟩
   ·rcases hS.o with ac|⟨ac,N,aV,bz,cm⟩
    ·exact .inl ac
    ·exact .inr ⟨ac,N,aV,bz,cm.alloc _⟩
   ·exact p5 (F1:=[]) hS.nd ak
   ·intro k ap;rw[bW];simp only[KP,KW,List.not_mem_nil,or_false] at ap;rcases ap with ap|ap
    ·omega
    ·have:=bv k (by simpa using ap);omega
  ·
   cases u:(g == 1) with
   | false=>rw[u] at an;exact absurd an (by simp)
   | true=>
   rw[u] at an;have cd:g=1:=by simpa using u
   subst cd;have i0:i=3:=by simpa using an
   subst i0;refine⟨_,o3,fun K hK=>?_⟩;rw[if_pos (by rfl)];refine iu.fill hS.g de (.tmp 7) (.tmp 9) rfl (e7 _ _ _ _ _ _ _) (e9 _ _ _ _ _ _ _) (by have:=Src.lx (hG.on (Fr.ext hS.ext)).ints (jA _) (mH _) ad;rwa [tK] at this) ad ad (fun h=>by subst h;exact hG.none_) (fun v ab R a5 bE bD r=>?_);have dC:=bE.size;have l:∀k∈F1,W.heap.size≤k:=fun k ap=>(bv k (g4.dh.2 (by simp[ap]))).1;have S:Ext W ab:=Fr.low (M:=fun k=>k∈F1) (Fr.trans (Fr.mono hS.ext fun _ h=>h.elim) bE) l;refine hK _ _ (fun _=>bE.mono fun k ap=>by have:=l k ap;omega) ?_;rw[EL];have j:∀k,k∈F1++(F2++(bQ++cb))→k∉F1→ab.heap[k]?=w.heap[k]?:=fun k ap hn=>bE.block k (ak k ap) hn;have n1:=List.nodup_append.1 hS.nd;have n2:=List.nodup_append.1 n1.2.1;have n3:=List.nodup_append.1 n2.2.1;refine ao 2 t h b ad ht ah ad E ad _ _ _ _ _ _ _ R F2 bQ cb _ ⟨S,a5,hS.t.ak (fun k ap=>j k (g4.dh.2 (by simp[ap])) (fun ac=>n1.2.2 k ac k (by simp[ap]) rfl)),hS.h.ak (fun k ap=>j k (g4.dh.2 (by simp[ap])) (fun ac=>n1.2.2 k ac k (by simp[ap]) rfl)),?_,?_,?_⟩
   ·rcases hS.o with ac|⟨ac,N,aV,bz,cm⟩
    ·exact .inl ac
    ·have q:∀k∈cb,k∉F1:=fun k ap=>fun ac=>n1.2.2 k ac k (by simp[ap]) rfl;exact .inr ⟨ac,N,aV,bz,show _=_ from (j N (g4.dh.2 (by simp[bz])) (q N (by simp[bz]))).trans cm⟩
   ·exact sU (A:=[]) hS.nd ak bD fun k ap=>(r k ap).1
   ·intro k ap;rcases g4.dh.1 ap with ap|ap|ap|ap
    ·have:=r k ap;have:W.heap.size≤k:=by rcases this.1 with ac|ac;exact l k ac;omega
     omega
    ·have:=bv k (g4.dh.2 (by simp[ap]));omega
    ·have:=bv k (g4.dh.2 (by simp[ap]));omega
    ·have:=bv k (g4.dh.2 (by simp[ap]));omega
  ·
   cases u:(t == 0) with
   | false=>rw[u] at an;exact absurd an (by simp)
   | true=>
   rw[u] at an;have c8:t=0:=by simpa using u
   have i0:i=4:=by simpa using an
   subst c8 i0;obtain⟨y,_,a5⟩:=hS.t.begin rfl;subst y;refine⟨_,o4,fun K hK=>?_⟩;rw[if_pos (by rfl)];refine HO (hK _ _ (fun _=>z _) ?_);rw[IJ];refine ao g 1 h b a2 ad ah ad (fun h=>ad) ad _ _ _ _ _ _ _ F1 [w.heap.size] bQ cb _ ⟨hS.ext.alloc _,hS.g.ak fun k ap=>m _ k (ak k (g4.dh.2 (by simp[ap]))),a5,hS.h.ak fun k ap=>m _ k (ak k (g4.dh.2 (by simp[ap]))),?_,?_,?_⟩
   ·rcases hS.o with ac|⟨ac,N,aV,bz,cm⟩
    ·exact .inl ac
    ·exact .inr ⟨ac,N,aV,bz,cm.alloc _⟩
   ·exact p5 (F1:=F1) hS.nd ak
   ·intro k ap;rw[bW];rcases g4.dh.1 ap with ap|ap|ap|ap
    ·have:=bv k (g4.dh.2 (by simp[ap]));omega
    ·have:=Li.1 ap;omega
    ·have:=bv k (g4.dh.2 (by simp[ap]));omega
    ·have:=bv k (g4.dh.2 (by simp[ap]));omega
  ·
   cases u:(t == 1 && g == 2) with
   | false=>rw[u] at an;exact absurd an (by simp)
   | true=>
   rw[u] at an;simp only[KS,beq_iff_eq] at u;obtain⟨t1,g2⟩:=u;subst t1 g2;have i0:i=7:=by simpa using an
   subst i0;refine⟨_,o7,fun K hK=>?_⟩;rw[if_pos (by rfl)];refine iu.fill hS.t kO (.tmp 11) (.tmp 13) rfl (I6 _ _ _ _ _ _ _) (I7 _ _ _ _ _ _ _) (Src.lx (hT.on (Fr.ext hS.ext)).holds (eE _) (k5 _) ad) ad ad (fun h=>by subst h;exact hT.none_) (fun v ab R a5 bE bD r=>?_);have dC:=bE.size;have l:∀k∈F2,W.heap.size≤k:=fun k ap=>(bv k (g4.dh.2 (by simp[ap]))).1;have S:Ext W ab:=Fr.low (M:=fun k=>k∈F2) (Fr.trans (Fr.mono hS.ext fun _ h=>h.elim) bE) l;refine hK _ _ (fun _=>bE.mono fun k ap=>by have:=l k ap;omega) ?_;rw[Js];have j:∀k,k∈F1++(F2++(bQ++cb))→k∉F2→ab.heap[k]?=w.heap[k]?:=fun k ap hn=>bE.block k (ak k ap) hn;have n1:=List.nodup_append.1 hS.nd;have n2:=List.nodup_append.1 n1.2.1;have n3:=List.nodup_append.1 n2.2.1;refine ao 2 2 h b a2 ad ah ad ad ad _ _ _ _ _ _ _ F1 R bQ cb _ ⟨S,hS.g.ak (fun k ap=>j k (g4.dh.2 (by simp[ap])) (fun ac=>n1.2.2 k ap k (by simp[ac]) rfl)),a5,hS.h.ak (fun k ap=>j k (g4.dh.2 (by simp[ap])) (fun ac=>n2.2.2 k ac k (by simp[ap]) rfl)),?_,?_,?_⟩
   ·rcases hS.o with ac|⟨ac,N,aV,bz,cm⟩
    ·exact .inl ac
    ·have q:∀k∈cb,k∉F2:=fun k ap=>fun ac=>n2.2.2 k ac k (by simp[ap]) rfl;exact .inr ⟨ac,N,aV,bz,show _=_ from (j N (g4.dh.2 (by simp[bz])) (q N (by simp[bz]))).trans cm⟩
   ·exact sU (A:=F1) hS.nd ak bD fun k ap=>(r k ap).1
   ·intro k ap;rcases g4.dh.1 ap with ap|ap|ap|ap
    ·have:=bv k (g4.dh.2 (by simp[ap]));omega
    ·have:=r k ap;have:W.heap.size≤k:=by rcases this.1 with ac|ac;exact l k ac;omega
     omega
    ·have:=bv k (g4.dh.2 (by simp[ap]));omega
    ·have:=bv k (g4.dh.2 (by simp[ap]));omega
  ·
   cases u:(h == 0) with
   | false=>rw[u] at an;exact absurd an (by simp)
   | true=>
   rw[u] at an;have c8:h=0:=by simpa using u
   have i0:i=8:=by simpa using an
   subst c8 i0;obtain⟨y,_,a5⟩:=hS.h.begin rfl;subst y;refine⟨_,o8,fun K hK=>?_⟩;rw[if_pos (by rfl)];refine HP (hK _ _ (fun _=>z _) ?_);rw[Jt];refine ao g t 1 b a2 ht ad bO ad ad _ _ _ _ _ _ _ F1 F2 [w.heap.size] cb _ ⟨hS.ext.alloc _,hS.g.ak fun k ap=>m _ k (ak k (g4.dh.2 (by simp[ap]))),hS.t.ak fun k ap=>m _ k (ak k (g4.dh.2 (by simp[ap]))),a5,?_,?_,?_⟩
   ·rcases hS.o with ac|⟨ac,N,aV,bz,cm⟩
    ·exact .inl ac
    ·exact .inr ⟨ac,N,aV,bz,cm.alloc _⟩
   ·have:=p5 (F1:=F1++F2) (F2:=cb) (by simpa using hS.nd) (by simpa using ak);simpa using this
   ·intro k ap;rw[bW];rcases g4.dh.1 ap with ap|ap|ap|ap
    ·have:=bv k (g4.dh.2 (by simp[ap]));omega
    ·have:=bv k (g4.dh.2 (by simp[ap]));omega
    ·have:=Li.1 ap;omega
    ·have:=bv k (g4.dh.2 (by simp[ap]));omega
  ·
   cases u:(h == 1 && t == 2) with
   | false=>rw[u] at an;exact absurd an (by simp)
   | true=>
   rw[u] at an;simp only[KS,beq_iff_eq] at u;obtain⟨ac,t2⟩:=u;have g2:=bO t2;subst ac t2 g2;have i0:i=11:=by simpa using an
   subst i0;refine⟨_,Jh,fun K hK=>?_⟩;rw[if_pos (by rfl)];refine iu.fill hS.h sx (.tmp 15) (.tmp 17) rfl (I8 _ _ _ _ _ _ _) (I9 _ _ _ _ _ _ _) (hH.on (Fr.ext hS.ext)) ad ad Je (fun v ab R a5 bE bD r=>?_);have dC:=bE.size;have l:∀k∈bQ,W.heap.size≤k:=fun k ap=>(bv k (g4.dh.2 (by simp[ap]))).1;have S:Ext W ab:=Fr.low (M:=fun k=>k∈bQ) (Fr.trans (Fr.mono hS.ext fun _ h=>h.elim) bE) l;refine hK _ _ (fun _=>bE.mono fun k ap=>by have:=l k ap;omega) ?_;rw[Ju];have j:∀k,k∈F1++(F2++(bQ++cb))→k∉bQ→ab.heap[k]?=w.heap[k]?:=fun k ap hn=>bE.block k (ak k ap) hn;have n1:=List.nodup_append.1 hS.nd;have n2:=List.nodup_append.1 n1.2.1;have n3:=List.nodup_append.1 n2.2.1;refine ao 2 2 2 b a2 ht ad ad ad ad _ _ _ _ _ _ _ F1 F2 R cb _ ⟨S,hS.g.ak (fun k ap=>j k (g4.dh.2 (by simp[ap])) (fun ac=>n1.2.2 k ap k (by simp[ac]) rfl)),hS.t.ak (fun k ap=>j k (g4.dh.2 (by simp[ap])) (fun ac=>n2.2.2 k ap k (by simp[ac]) rfl)),a5,?_,?_,?_⟩
   ·rcases hS.o with ac|⟨ac,N,aV,bz,cm⟩
    ·exact .inl ac
    ·have q:∀k∈cb,k∉bQ:=fun k ap=>fun ac=>n3.2.2 k ac k ap rfl;exact .inr ⟨ac,N,aV,bz,show _=_ from (j N (g4.dh.2 (by simp[bz])) (q N (by simp[bz]))).trans cm⟩
   ·have:=sU (A:=F1++F2) (B:=bQ) (C:=cb) (by simpa using hS.nd) (by simpa using ak) bD (fun k ap=>(r k ap).1);simpa using this
   ·intro k ap;rcases g4.dh.1 ap with ap|ap|ap|ap
    ·have:=bv k (g4.dh.2 (by simp[ap]));omega
    ·have:=bv k (g4.dh.2 (by simp[ap]));omega
    ·have:=r k ap;have:W.heap.size≤k:=by rcases this.1 with ac|ac;exact l k ac;omega
     omega
    ·have:=bv k (g4.dh.2 (by simp[ap]));omega
  ·
   cases b with
   | true=>simp at an
   | false=>
   have i0:i=15:=by simpa using an
   subst i0;refine⟨_,Ji,fun K hK=>?_⟩;rw[if_pos (by rfl)];refine HN (hK _ _ (fun _=>z _) ?_);rw[q5];have bz:cb=[]:=by
    rcases hS.o with⟨_,_,h⟩|⟨h,_⟩
    ·exact h
    ·cases h
   subst bz;refine ao g t h true a2 ht ah bO E (by simp at J ⊢;omega) _ _ _ _ _ _ _ F1 F2 bQ [w.heap.size] _ ⟨hS.ext.alloc _,hS.g.ak fun k ap=>m _ k (ak k (g4.dh.2 (by simp[ap]))),hS.t.ak fun k ap=>m _ k (ak k (g4.dh.2 (by simp[ap]))),hS.h.ak fun k ap=>m _ k (ak k (g4.dh.2 (by simp[ap]))),.inr ⟨rfl,_,rfl,rfl,Lp⟩,?_,?_⟩
   ·have:=p5 (F1:=F1++(F2++bQ)) (F2:=[]) (by simpa using hS.nd) (by simpa using ak);simpa using this
   ·intro k ap;rw[bW];rcases g4.dh.1 ap with ap|ap|ap|ap
    ·have:=bv k (g4.dh.2 (by simp[ap]));omega
    ·have:=bv k (g4.dh.2 (by simp[ap]));omega
    ·have:=bv k (g4.dh.2 (by simp[ap]));omega
    ·have:=Li.1 ap;omega
end
end Go.Proofs.YtnhhdaggkiomoaaGreat

/- Part 25 of the proof. No condition of its own. -/
import Derived.Test.YtglbpimocmhojaaGreatQ24
namespace Go.Proofs.YtglbpimocmhojaaGreat
open Go.RowKit Go.Proofs.Tryz
set_option maxRecDepth 1000000
set_option maxHeartbeats 25600000
set_option linter.unusedVariables false
variable{F F1 F2:List Nat}{xs:List Value}{m n:Nat}{e:TypeId}{v1 v2:Value}{ab:World}
def im(w:World)(p:Prop)(e:Ending)(ab:World):Prop:=∃b:Bool,e=.returned (.bool b)/\(b=true↔p)/\Ext w ab
theorem tJ{f g:al}:f=g↔f.proc=g.proc/\f.pc=g.pc/\f.ints=g.ints/\f.au=g.au:=by
 cases f;cases g;simp
namespace Cn
theorem eQ{p:Prop}(h:p:=by
 refine b3 ?_;generalize ct:World.setCell _ _ _=Y;have au:=ke 0 [.int .i64 g.proc,.int .i64 g.pc,.slice dg z c9,.slice KA v kc] aQ.2.2 ct;have ds:Ext wr Y:=Fr.low (M:=λb=>¬b<wr.heap.size) (Fr.trans aQ.1 (au.2.mono λb O=>ad)) λb O=>ad;have br:aq Y o 75 #[.int .i64 f.proc,.int .i64 f.pc,.slice IA x ic,.slice S y lc]:=aQ.2.1.on au.2 be;have df:aq Y gc 75 #[.int .i64 g.proc,.int .i64 g.pc,.slice dg z c9,.slice KA v kc]:=au.1;have bB:=aD ds br df;obtain⟨e0,a6,aP⟩:=br.two;clear f0 dH dL;obtain⟨f0,dH,dL⟩:=df.two;have bQ:∀{q:Prop},¬q->(l=k->q)->(false=true↔l=k):=λac au=>⟨λh=>(by cases h),λh=>absurd (au h) ac⟩
 have N:l=k->f=g:=λh=>by have ac:=bT.1;have au:=bT.2.1;rw[h,au] at ac;injection ac with ac;exact ac.symm
 have aA:=ah N trivial;clear ct au ds br df bQ N;have aK:Ext w Y:=(ag.1.trans bq.1).trans bB.1;have L:=ae aK;clear aK;by_cases ac:f.proc=g.proc
 case neg=>
  have q5:(f.proc != g.proc)=true:=by simpa using ac
  have dh:=ae ac;clear ac;exact zf
 have q5:(f.proc != g.proc)=false:=by simpa using ac
 have H1:=ae ac;clear ac;by_cases au:f.pc=g.pc
 case neg=>
  have di:(f.pc != g.pc)=true:=by simpa using au
  have dh:=ae au;clear au;exact zf
 have di:(f.pc != g.pc)=false:=by simpa using au
 have bJ:=ae au;clear au;go_wp2_with(fail);have s:=bB.1;refine(h5 IA dg x ic z c9 f.ints g.ints Y (bT.2.2.1.on (Fr.ext s)) (bT.2.2.2.2.1.on (Fr.ext s)) ad).mono ?_;rintro r aT ⟨rfl,bg⟩;clear s;have a4:=ae (show Ext Y aT from Fr.of bg);clear bg e0 a6 aP f0 dH dL;obtain⟨e0,a6,aP⟩:=(bB.2.1.ai a4.o).two;obtain⟨f0,dH,dL⟩:=(bB.2.2.ai a4.o).two
 cases aU:decide (f.ints=g.ints) with
 | false=>
  have dh:=ae (of_decide_eq_false aU);clear aU;go_wp2_with(fail);go_ret
  exact⟨false,rfl,⟨λh=>(by cases h),λh=>absurd (by rw[aA.1 h]) dh.o⟩,L.trans a4.o⟩
 | true=>
  have bW:=ae (of_decide_eq_true aU);clear aU;go_wp2_with(fail);have s:=bB.1.trans a4.o;refine(h5 S KA y lc v kc f.au g.au aT (bT.2.2.2.1.on (Fr.ext s)) (bT.2.2.2.2.2.on (Fr.ext s)) ad).mono ?_;rintro r bX ⟨rfl,co⟩;clear s;have a9:=ae (show Ext aT bX from Fr.of co);clear co e0 a6 aP f0 dH dL
  cases bE:decide (f.au=g.au) with
  | false=>
   have dh:=ae (of_decide_eq_false bE);clear bE;go_wp2_with(fail);go_ret
   exact⟨false,rfl,⟨λh=>(by cases h),λh=>absurd (by rw[aA.1 h]) dh.o⟩,(L.trans a4.o).trans a9.o⟩
  | true=>
   have bY:=ae (of_decide_eq_true bE);clear bE;go_wp2_with(fail);go_roundw
   case rel=>
    have aL:f=g:=tJ.2 ⟨H1.o,bJ.o,bW.o,bY.o⟩;refine⟨i+1,by go_num,ad,((bq.1.trans bB.1).trans a4.o).trans a9.o,λj bi=>?_⟩;by_cases az:j=i
    .rw[az,bT.1,bT.2.1,aL]
    .exact bq.2 j ad
   case measure=>exact aG
 ):p:=h
theorem AL{p:Prop}(h:p:=by
 have U:x<=100000:=ad;have aI:y<=100000:=ad;have bT:=cS G u aR cd J ck;clear aw T cw cI G u aR cd J ck aN a2 aW aO a1 cm ar;obtain⟨ws,m0⟩:∃ws,ws=wr.heap.size:=⟨_,rfl⟩
 have cn:ch<ws:=ad;have dn:bZ<ws:=ad;have aM:w.heap.size<ws:=ad;have aS:w.heap.size+1<ws:=ad;have aE:=ae m0;clear m0;go_upto_region 6 with(fail);refine qY (λb=>¬b<ws) [13] (.free 0 (.held 1 (.free 2 (.free 3 (.held 4 (.free 5 (.held 6 (.free 7 (.free 8 (.held 9 (.pick [10,11] (λi=>bif i == 10 then .pick [11] (λ_=>.pick [12] (λ_=>.pick [13] (λ_=>.stop))) else .pick [10] (λ_=>.pick [12] (λ_=>.pick [13] (λ_=>.stop))))))))))))))) ?_;refine tf ?_;refine mU ?_
 iterate 2 refine tf ?_
 refine mU ?_;refine tf ?_;refine mU ?_
 iterate 2 refine tf ?_
 refine mU ?_;refine l8 (P:=?P1) (ops:=?o1) (Q:=?q1) (R:=?r1) (tails:=?t1) (rest:=.pick [12] (λ_=>.pick [13] (λ_=>.stop))) (aa:=?aa) (C:=λ(o gc:Nat) V=>Ext wr V/\aq V o 75 #[.int .i64 0,.int .i64 0,.slice none 0 0,.slice none 0 0]/\aq V gc 75 #[.int .i64 0,.int .i64 0,.slice none 0 0,.slice none 0 0]/\o≠gc/\wr.heap.size<=o/\wr.heap.size<=gc) (λkey=>?main) ?key
 case main=>
  refine aY ?_ ?_
  ·
   refine dP ?_;refine ao ?_;refine dP ?_;generalize hV:World.drew (World.alloc _ _)=V;have hC:Ext wr V/\aq V wr.heap.size 75 #[.int .i64 0,.int .i64 0,.slice none 0 0,.slice none 0 0]/\aq V (wr.heap.size+1) 75 #[.int .i64 0,.int .i64 0,.slice none 0 0,.slice none 0 0]/\wr.heap.size≠wr.heap.size+1/\wr.heap.size<=wr.heap.size/\wr.heap.size<=wr.heap.size+1:=by
    exact ze
   clear hV;obtain⟨cv,bO,cV,H,b1,cj⟩:=hC;generalize bF:wr.heap.size+1=g2 at cV H cj ⊢;generalize a7:wr.heap.size=ca at bO H ⊢;exact key ca g2 V ⟨cv,bO,cV,H,ad,ad⟩
  ·
   refine dP ?_;refine ao ?_;refine dP ?_;generalize hV:World.drew (World.alloc _ _)=V;have hC:Ext wr V/\aq V wr.heap.size 75 #[.int .i64 0,.int .i64 0,.slice none 0 0,.slice none 0 0]/\aq V (wr.heap.size+1) 75 #[.int .i64 0,.int .i64 0,.slice none 0 0,.slice none 0 0]/\wr.heap.size+1≠wr.heap.size/\wr.heap.size<=wr.heap.size/\wr.heap.size<=wr.heap.size+1:=by
    exact ze
   clear hV;obtain⟨cv,bO,cV,H,b1,cj⟩:=hC;generalize bF:wr.heap.size+1=g2 at cV H cj ⊢;generalize a7:wr.heap.size=ca at bO H ⊢;exact key g2 ca V ⟨cv,cV,bO,H,ad,ad⟩
 intro o gc V ⟨bm,ab,ay,be,aH,a2⟩;obtain⟨e0,a6,aP⟩:=ab.two;obtain⟨f0,dH,dL⟩:=ay.two;have ax:=cS bm ab ay be aH a2;clear bm ab ay a0 ai af a8 am aF c0 c1 c2 c3 d0 d1 d2 d3;refine ao ?_;refine aB rfl (λK hK=>?_) rfl;go_simp;refine dz hK (((Ll.setCell (.inl (show ¬o<ws from by have:=aE.o;omega)) _).setCell (.inl (show ¬o<ws from by have:=aE.o;omega)) _).setCell (.inl (show ¬o<ws from by have:=aE.o;omega)) _ |>.setCell (.inl (show ¬o<ws from by have:=aE.o;omega)) _) ?_;clear hK K;refine Hr (λX=>Fr (λb=>¬b<wr.heap.size) wr X/\aq X o 75 #[.int .i64 f.proc,.int .i64 f.pc,.slice IA x ic,.slice S y lc]/\aq X gc 75 #[.int .i64 0,.int .i64 0,.slice none 0 0,.slice none 0 0]) ?_ (λX hX=>?_)
 .have ac:=ke 0 [.int .i64 f.proc,.int .i64 f.pc,.slice IA x ic,.slice S y lc] ax.2.1 rfl;refine⟨Fr.trans (ax.1.mono λ_ h=>h.elim) (ac.2.mono λb O=>by have:=ax.2.2.2.2.1;omega),ac.1,ax.2.2.1.on ac.2 (Ne.symm be)⟩
 have aQ:=ae hX;clear e0 a6 aP f0 dH dL;obtain⟨f0,dH,dL⟩:=hX.2.2.two;clear hX;exact fj
 ):p:=h
theorem pj{p:Prop}(h:p:=by
 have ag:=cK aw bs bD (bo.1.on (Fr.ext aw)) (bo.2.on (Fr.ext aw));obtain⟨a0,ai,af⟩:=bs.two;obtain⟨a8,am,aF⟩:=bD.two;clear ba aw bs bD bo;by_cases I:n=m
 case neg=>
  have q1:((n:Int) != (m:Int))=true:=by simp;omega
  have aj:=ae I;clear I;go_wp2_with(fail);go_ret;exact⟨false,rfl,⟨λh=>(by cases h),λh=>absurd (by rw[<-b4.1,<-b4.2.1,h]) aj.o⟩,ag.1⟩
 subst I;have q1:((n:Int) != (n:Int))=false:=by simp
 clear a0 ai af a8 am aF;obtain⟨a0,ai,af⟩:=ag.2.1.two;obtain⟨a8,am,aF⟩:=ag.2.2.1.two;go_wp2_with(fail);clear a0 ai af a8 am aF;go_loopw [5] (λcu wr=>∃i:Nat,cu=.int .i64 i/\i<=n/\Ext W wr/\∀j,j<i->l[j]?=k[j]?) (λcu _=>n - (intOf cu).toNat)
 case atStart=>exact⟨0,rfl,ad,Ll,λj bi=>ad⟩
 case round=>
  obtain⟨i,rfl,an,aw,T⟩:=hrel;have bq:=ah aw T;obtain⟨a0,ai,af⟩:=(ag.2.1.ai aw).two;obtain⟨a8,am,aF⟩:=(ag.2.2.1.ai aw).two;by_cases ak:i<n
  .obtain⟨ch,c5,f,IA,x,ic,S,y,lc,rfl,cw,G,c0,c1,c2,c3,aN,a2,aR,cd⟩:=(ag.2.2.2.1.on (Fr.ext aw)).pM ak;obtain⟨bZ,go,g,dg,z,c9,KA,v,kc,rfl,cI,u,d0,d1,d2,d3,aW,aO,J,ck⟩:=(ag.2.2.2.2.on (Fr.ext aw)).pM ak;exact AK
  .obtain rfl:i=n:=ad;clear aw T;go_wp2_with(fail);go_ret;refine⟨true,rfl,⟨λ_=>?_,λ_=>rfl⟩,ag.1.trans bq.1⟩;apply List.ext_getElem?
   intro j;exact A5
 ):p:=h
theorem vk{p:Prop}(h:p:=by
 go_enter func42,ntmps42;exact pg
 ):p:=h
end Cn
open Cn in
theorem ur(A B:Lp)(n c m aJ:Nat)(l k:List al)(w:World)(hl:Sl w (av w) A n (l.map er))(ap:Sl w (av w) B m (k.map er))(hn:n<=1000000)(a1:∀f∈l,f.ints.length<=100000/\f.au.length<=100000) :
  Calls prog 42 #[.agg #[.slice A n c],.agg #[.slice B m aJ]] w (im w (l=k)):=by
 exact vj
theorem Ek{s t:aj}:s=t↔s.fault=t.fault/\s.globals=t.globals/\s.table=t.table/\s.threads=t.threads:=by
 cases s;cases t
 simp only[aj.mk.injEq];constructor
 .rintro⟨ac,au,aU,bE⟩;exact⟨bE,ac,au,aU⟩
 .rintro⟨ac,au,aU,bE⟩;exact⟨au,aU,bE,ac⟩
namespace Co
theorem pj{p:Prop}(h:p:=by
 have ag:=cK aw bs bD (bo.1.on aw) (bo.2.1.on aw);obtain⟨a0,ai,af⟩:=bs.two;obtain⟨a8,am,aF⟩:=bD.two;clear ba aw bs bD;by_cases ac:s.fault=Q.fault
 case neg=>
  have q5:(s.fault != Q.fault)=true:=by simpa using ac
  have dh:=ae ac;clear ac;go_wp2_with(fail);go_ret;exact⟨false,rfl,⟨λh=>(by cases h),λh=>absurd (by rw[h]) dh.o⟩,ag.1⟩
 have q5:(s.fault != Q.fault)=false:=by simpa using ac
 have H1:=ae ac;clear ac;go_wp2_with(fail);refine(h5 GA bL gn gc l k s.globals Q.globals W ag.2.2.2.1.at_.g ag.2.2.2.2.at_.g ad).mono ?_;rintro r aT ⟨rfl,bg⟩;have a4:=ae (show Ext W aT from Fr.of bg);clear bg a0 ai af a8 am aF;obtain⟨a0,ai,af⟩:=(ag.2.1.ai a4.o).two;obtain⟨a8,am,aF⟩:=(ag.2.2.1.ai a4.o).two
 cases au:decide (s.globals=Q.globals) with
 | false=>
  have dh:=ae (of_decide_eq_false au);clear au;go_wp2_with(fail);go_ret
  exact⟨false,rfl,⟨λh=>(by cases h),λh=>absurd (by rw[h]) dh.o⟩,ag.1.trans a4.o⟩
 | true=>
 have bJ:=ae (of_decide_eq_true au);clear au;go_wp2_with(fail);refine(D8 TA ab tn tc aJ aI s.table Q.table aT (ag.2.2.2.1.on a4.o).at_.t.holds (ag.2.2.2.2.on a4.o).at_.t.holds ad).mono ?_;rintro r bX ⟨rfl,co⟩;have a9:=ae (show Ext W bX from a4.trans (Fr.of co));clear co a0 ai af a8 am aF a4;obtain⟨a0,ai,af⟩:=(ag.2.1.ai a9.o).two;obtain⟨a8,am,aF⟩:=(ag.2.2.1.ai a9.o).two
 cases aU:decide (s.table=Q.table) with
 | false=>
  have dh:=ae (of_decide_eq_false aU);clear aU;go_wp2_with(fail);go_ret
  exact⟨false,rfl,⟨λh=>(by cases h),λh=>absurd (by rw[h]) dh.o⟩,ag.1.trans a9.o⟩
 | true=>
 have bW:=ae (of_decide_eq_true aU);clear aU;by_cases I:hn=hm
 case neg=>
  have di:((hn:Int) != (hm:Int))=true:=by simp;omega
  have dh:=ae I;clear I;go_wp2_with(fail);go_ret;exact⟨false,rfl,⟨λh=>(by cases h),λh=>absurd (by rw[<-bo.2.2.2.1,<-bo.2.2.2.2,h]) dh.o⟩,ag.1.trans a9.o⟩
 subst I;have di:((hn:Int) != (hn:Int))=false:=by simp
 have dm:hn<=1000:=by have:=bo.2.2.1.h;have:=bo.2.2.2.1;omega
 go_wp2_with(fail);clear a0 ai af a8 am aF;go_loopw [5] (λcu wr=>∃i:Nat,cu=.int .i64 i/\i<=hn/\Ext W wr/\∀j,j<i->s.threads[j]?=Q.threads[j]?) (λcu _=>hn - (intOf cu).toNat)
 case atStart=>exact⟨0,rfl,ad,a9.o,λj bi=>ad⟩
 case round=>
  obtain⟨i,rfl,an,aw,T⟩:=hrel;clear a9;have bq:=ah aw T;obtain⟨a0,ai,af⟩:=(ag.2.1.ai aw).two;obtain⟨a8,am,aF⟩:=(ag.2.2.1.ai aw).two;by_cases ak:i<hn
  .obtain⟨ch,c5,f,FA,x,ic,rfl,cw,G,c0,aN,n⟩:=(ag.2.2.2.1.on aw).at_.h.lz ak;obtain⟨bZ,go,gt,dg,z,c9,rfl,cI,u,d0,aW,b4⟩:=(ag.2.2.2.2.on aw).at_.h.lz ak;have bf:ch<wr.heap.size:=cw;have Z:bZ<wr.heap.size:=cI;have a1:=bo.2.2.1.f f (KG G);have cm:x=f.length:=by have:=n.1;simpa using this.symm
   have U:x<=1000000:=ad;have bT:=cK G u n b4 a1.2;clear aw T cw cI G u n b4 aN aW a1 cm;go_upto_region 6 with(fail);refine eK (λ_=>False) [(0,3),(1,0),(2,3),(3,3),(4,0),(5,3),(6,0),(7,3),(8,3),(9,0),(10,2),(11,3)] ?_;refine pf ?_;refine ph ?_
   iterate 2 refine pf ?_
   refine ph ?_;refine pf ?_;refine ph ?_
   iterate 2 refine pf ?_
   refine ph ?_;refine ax rfl (λK hK=>?_);go_simp;have bA:Ext wr wr.drew:=Ll.drew;refine(ur FA dg x ic z c9 f gt wr.drew (bT.2.2.1.on (Fr.ext bA)) (bT.2.2.2.1.on (Fr.ext bA)) U bT.2.2.2.2).mono ?_;rintro r cL ⟨b,rfl,O,cB⟩;have cj:=ae (Fr.aF cB);have b1:=ae O;clear O cB bA a0 ai af a8 am aF c0 d0;refine dO hK ?_;clear hK K;refine pf ?_;refine aE ?_;have cy:s=Q->f=gt:=λh=>by have ac:=bT.1;have au:=bT.2.1;rw[h,au] at ac;injection ac with ac;exact ac.symm
   have aL:=ae cy;clear cy
   cases b with
   | false=>
    go_wp2_with(fail);go_ret
    exact⟨false,rfl,⟨λh=>(by cases h),λh=>absurd (b1.2 (aL.o h)) (by simp)⟩,(ag.1.trans bq.1).trans cj.o⟩
   | true=>
    go_wp2_with(fail);go_roundw
    case rel=>
     refine⟨i+1,by go_num,ad,bq.1.trans cj.o,λj bi=>?_⟩;by_cases az:j=i
     .rw[az,bT.1,bT.2.1,b1.1 rfl]
     .exact bq.2 j ad
    case measure=>exact aG
  .obtain rfl:i=hn:=ad;clear aw T;go_wp2_with(fail);go_ret;refine⟨true,rfl,⟨λ_=>Ek.2 ⟨H1.o,bJ.o,bW.o,?_⟩,λ_=>rfl⟩,ag.1.trans bq.1⟩;apply List.ext_getElem?
   intro j;by_cases bi:j<i
   .exact bq.2 j bi
   .rw[List.getElem?_eq_none (aC bo.2.2.2.1),List.getElem?_eq_none (aC bo.2.2.2.2)]
 ):p:=h
end Co
open Co in
theorem ID(s Q:aj)(q ar:SV)(w:World)(h:q.Ok w s)(F:ar.Ok w Q)(a1:Small s) :
  Calls prog 11 #[.agg (q.val s),.agg (ar.val Q)] w (im w (s=Q)):=by
 obtain⟨GA,gn,gc,TA,tn,tc,HA,hn,hc⟩:=q;obtain⟨bL,l,k,ab,aJ,aI,b1,hm,hd⟩:=ar;have ry:gn<=1000:=by have ac:=h.at_.g.1;have au:=a1.g;rw[KH] at ac;have aU:s.globals.length=gn:=ac;omega
 have ti:tn<=5000:=by have ac:=h.at_.t.1;have au:=a1.t;rw[KH] at ac;have aU:s.table.length=tn:=ac;omega
 have bG:s.threads.length=hn:=by have ac:=h.at_.h.1;rw[KH] at ac;exact ac
 have ce:Q.threads.length=hm:=by have ac:=F.at_.h.1;rw[KH] at ac;exact ac
 have bo:=cK h F a1 bG ce;clear h F a1 bG ce;dsimp only[SV.val];go_enter func11,ntmps11;exact pg
def iq(e:TypeId)(z n:Nat)(xs:List Value)(w:World)(st:Nat)(v1 v2:Value)(F:List Nat):Prop:=
 (st=0/\v1=undef/\v2=undef/\F=[])\/(st=1/\v2=undef/\∃A,v1=.slice A 0 0/\Own w e z A 0 0 [] F)\/(st=2/\∃A c,v2=.slice A n c/\Own w e z A n c xs F)
theorem iq.ak{e:TypeId}{z n:Nat}{xs:List Value}{w ab:World}{st:Nat}{v1 v2:Value}{F:List Nat}(h:iq e z n xs w st v1 v2 F)(ap:∀b∈F,ab.heap[b]?=w.heap[b]?):iq e z n xs ab st v1 v2 F:=by
 rcases h with h|⟨ac,au,A,aU,bE⟩|⟨ac,A,c,au,aU⟩
 .exact .inl h
 .exact .inr (.inl ⟨ac,au,A,aU,bE.ak ap⟩)
 .exact .inr (.inr ⟨ac,A,c,au,aU.ak ap⟩)
def xp(g t h:Nat)(b:Bool):List Nat:=
 (bif g == 0 then [0] else [])++((bif g == 1 then [3] else [])++((bif t == 0 then [4] else [])++((bif t == 1 && g == 2 then [7] else [])++((bif h == 0 then [8] else [])++((bif h == 1 && t == 2 then [11] else [])++(bif b then [] else [15]))))))
def Gy(b:Bool):PT:=bif b then .pick [16] (λ_=>.stop) else .pick [15] (λ_=>.pick [16] (λ_=>.stop))
def jg:Nat->Nat->Nat->Nat->Bool->PT
 | 0,_,_,_,_=>.stop
 | f+1,g,t,h,b=>bif h == 2 then .free 14 (Gy b) else .pick (xp g t h b) λi=>
   bif i == 0 then jg f 1 t h b else bif i == 3 then jg f 2 t h b else bif i == 4 then jg f g 1 h b else bif i == 7 then jg f g 2 h b else bif i == 8 then jg f g t 1 b else bif i == 11 then jg f g t 2 b else jg f g t h true
structure g5(W:World)(s:aj)(gn tn hn:Nat)(hx:List Value)(w:World)(g t h:Nat)(b:Bool)(bj bD v10 v11 aF aI aH:Value)(F1 F2 bK bP:List Nat):Prop where
 ext:Ext W w
 g:iq 3 1 gn (s.globals.map dc) w g bD v10 F1
 t:iq 107 2 tn (s.table.flatMap bH) w t v11 aF F2
 h:iq 79 1 hn hx w h aI aH bK
 o:(b=false/\bj=undef/\bP=[])\/(b=true/\∃N,bj=.pointer (some ⟨N,0,none⟩)/\bP=[N]/\aq w N 40 #[.slice none 0 0,.slice none 0 0,.slice none 0 0,.int .i64 0])
 nd:(F1++(F2++(bK++bP))).Nodup
 lo:∀k∈F1++(F2++(bK++bP)),W.heap.size<=k/\k<w.heap.size
theorem pY(h:(F1++F2).Nodup)(hl:∀k∈F1++F2,k<m):(F1++(m::F2)).Nodup:=
 (List.perm_middle (a:=m) (l₁:=F1) (l₂:=F2)).nodup_iff.2 (List.nodup_cons.2 ⟨λh=>by have:=hl m h;omega,h⟩)
theorem sP{A B q C:List Nat}(h:(A++(B++C)).Nodup)(hl:∀k∈A++(B++C),k<m)(aR:q.Nodup)(hn:∀k∈q,k∈B\/m<=k):(A++(q++C)).Nodup:=by
 have ac:=List.nodup_append.1 h;have au:=List.nodup_append.1 ac.2.1;refine List.nodup_append.2 ⟨ac.1,List.nodup_append.2 ⟨aR,au.2.1,λx hx y bb c=>?_⟩,λx hx y bb c=>?_⟩
 .subst c;rcases hn x hx with aU|aU
  .exact au.2.2 x aU x bb rfl
  .have:=hl x (by simp[bb]);omega
 .subst c;rcases KM.1 bb with bb|bb
  .rcases hn x bb with aU|aU
   .exact ac.2.2 x hx x (by simp[aU]) rfl
   .have:=hl x (by simp[hx]);omega
  .exact ac.2.2 x hx x (by simp[bb]) rfl
section
variable {a:Act} {w:World} {K:Act->World->Prop} {Q:Exit->Act->World->Prop} {dst:Option Nat} {ty:TypeId} {p:String} {ak:Array Edge}
theorem Ex(h:K (a.put dst (.slice (some ⟨w.heap.size,0,none⟩) 0 0)) (w.alloc (.cells #[] 3))):Oper.wp prog ⟨dst,.buildSlice 22 0 #[],ty,p,ak,none⟩ a w K Q:=by
 go_simp;exact h
theorem HK(h:K (a.put dst (.slice (some ⟨w.heap.size,0,none⟩) 0 0)) (w.alloc (.cells #[] 107))):Oper.wp prog ⟨dst,.buildSlice 37 0 #[],ty,p,ak,none⟩ a w K Q:=by
 go_simp;exact h
theorem HL(h:K (a.put dst (.slice (some ⟨w.heap.size,0,none⟩) 0 0)) (w.alloc (.cells #[] 79))):Oper.wp prog ⟨dst,.buildSlice 38 0 #[],ty,p,ak,none⟩ a w K Q:=by
 go_simp;exact h
theorem HJ(h:K (a.put dst (.pointer (some ⟨w.heap.size,0,none⟩))) (w.alloc (.cells #[.slice none 0 0,.slice none 0 0,.slice none 0 0,.int .i64 0] 40))):Oper.wp prog ⟨dst,.alloc 40,ty,p,ak,none⟩ a w K Q:=by
 go_simp;exact h
end
theorem iq.begin{z:Nat}{w:World}(h:iq e z n xs w 0 v1 v2 F)(hw:w.alloc (.cells #[] e)=ab):F=[]/\v2=undef/\iq e z n xs ab 1 (.slice (some ⟨w.heap.size,0,none⟩) 0 0) v2 [w.heap.size]:=by
 rcases h with⟨_,_,au,aU⟩|⟨h,_⟩|⟨h,_⟩
 .subst hw;exact⟨aU,au,.inr (.inl ⟨rfl,au,_,rfl,⟨World.ownsRow_made w #[] 0 (KZ _) (KZ _) (by simp),rfl⟩⟩)⟩
 .cases h
 .cases h
theorem iq.fill{P:Program}{t:TypeId}{z:Value}{size bytes:Nat}{w:World}(h:iq e size n xs w 1 v1 v2 F){o:Oper}{a:Act}{K:Act->World->Prop}{Q:Exit->Act->World->Prop}(bw:ch P t e z size bytes)(s x:Operand)
  (bn:o.op=.call {callee:=.builtin .append,args:=#[s,x],argTypes:=#[t,t]}) (hs:a.eval s=v1) {A:Lp} {c:Nat} (hx:a.eval x=.slice A n c) (a5:Src w size A n xs) (O:n*bytes<=140737488355328) (y:n<=140737488355328) (d:A=none->n=0)
  (hK:∀v ab R,iq e size n xs ab 2 v1 v R->Fr (λk=>k∈F) w ab->R.Nodup->(∀k∈R,(k∈F\/w.heap.size<=k)/\k<ab.heap.size)->K (a.put o.dst v) ab):o.wp P a w K Q:=by
 rcases h with⟨h,_⟩|⟨_,_,B,bI,E⟩|⟨h,_⟩
 .cases h
 .rw[bI] at hs;refine j8 _ bw s x bn 0 _ 0 [] hs E.row A n c xs hx a5 (by rw[KV];exact O) ad (KZ _) d λG ab bO cV H=>?_;simp only[KV,Le] at bO;obtain⟨I,aJ,rfl,hc,_⟩:=b1 bO;refine hK _ ab (bq I n aJ) (.inr (.inr ⟨rfl,I,aJ,rfl,bO,rfl⟩)) (Ll.grown cV λg a2=>.inl (by rw[E.eq];simp[a2])) (eW _ _ _) λb O=>?_;have aV:(Value.slice I n aJ).ownBlock=some b:=by simpa using O
  refine⟨?_,(bO.lt b aV).2⟩;rcases H with H|H
  .rw[H] at aV;exact .inl (by rw[E.eq];simp[aV])
  .rw[H] at aV;injection aV with aV;right;omega
 .cases h
section
variable {ops:Array Oper} {Q:Exit->Act->World->Prop} {W:World} {s:aj} {gn tn hn gc tc hc:Nat} {GA TA HA:Lp} {hx:List Value} {ws:Nat} {aa:Value->Value->Value->Value->Value->Value->Value->Act}
 {p0 p3 p4 p7 p8 p11 p15:String} {a0 a3 a4 a7 a8 a11 a15:Array Edge} {t15:TypeId}
theorem g5.dh{bK bP:List Nat}{k:Nat}:k∈F1++(F2++(bK++bP))↔k∈F1\/k∈F2\/k∈bK\/k∈bP:=by simp only[KM]
theorem World.kH(w:World)(o:Obj):(w.alloc o).heap.size=w.heap.size+1:=by first|(simp;done)|(cases o<;>simp;done)|(unfold World.alloc;simp;done)|rfl
theorem g5.ez{w:World}{M:List Nat}(J:Fr (λk=>k∈M) w ab)(ak:∀k∈F,k<w.heap.size)(hd:∀k∈F,k∉M):∀k∈F,ab.heap[k]?=w.heap[k]?:=λk ap=>J.block k (ak k ap) (hd k ap)
theorem ES(hG:Sl W (av W) GA gn (s.globals.map D.i))(hT:Sl W (av W) TA tn (s.table.map lh))(hH:Src W 1 HA hn hx)(Ja:HA=none->hn=0)(ry:gn<=100000)(ti:tn<=100000)(qK:hn<=100000)(m0:ws<=W.heap.size)
  (o0:ops[0]?=some ⟨some 7,.buildSlice 22 0 #[],22,p0,a0,none⟩)
  (o3:ops[3]?=some ⟨some 10,.call {callee:=.builtin .append,args:=#[.tmp 7,.tmp 9],argTypes:=#[22,22]},22,p3,a3,none⟩)
  (o4:ops[4]?=some ⟨some 11,.buildSlice 37 0 #[],37,p4,a4,none⟩)
  (o7:ops[7]?=some ⟨some 14,.call {callee:=.builtin .append,args:=#[.tmp 11,.tmp 13],argTypes:=#[37,37]},37,p7,a7,none⟩)
  (o8:ops[8]?=some ⟨some 15,.buildSlice 38 0 #[],38,p8,a8,none⟩)
  (Jd:ops[11]?=some ⟨some 18,.call {callee:=.builtin .append,args:=#[.tmp 15,.tmp 17],argTypes:=#[38,38]},38,p11,a11,none⟩)
  (Je:ops[15]?=some ⟨some 5,.alloc 40,t15,p15,a15,none⟩)
  (q5:∀a b c d e f g x,(aa a b c d e f g).put (some 5) x=aa x b c d e f g) (q7:∀a b c d e f g x,(aa a b c d e f g).put (some 7) x=aa a x c d e f g) (EB:∀a b c d e f g x,(aa a b c d e f g).put (some 10) x=aa a b x d e f g)
  (IC:∀a b c d e f g x,(aa a b c d e f g).put (some 11) x=aa a b c x e f g) (Jo:∀a b c d e f g x,(aa a b c d e f g).put (some 14) x=aa a b c d x f g) (Jp:∀a b c d e f g x,(aa a b c d e f g).put (some 15) x=aa a b c d e x g) (Jq:∀a b c d e f g x,(aa a b c d e f g).put (some 18) x=aa a b c d e f x)
  (e7:∀a b c d e f g,(aa a b c d e f g).eval (.tmp 7)=b) (e9:∀a b c d e f g,(aa a b c d e f g).eval (.tmp 9)=.slice GA gn gc) (I2:∀a b c d e f g,(aa a b c d e f g).eval (.tmp 11)=d) (I3:∀a b c d e f g,(aa a b c d e f g).eval (.tmp 13)=.slice TA tn tc)
  (I4:∀a b c d e f g,(aa a b c d e f g).eval (.tmp 15)=f) (I5:∀a b c d e f g,(aa a b c d e f g).eval (.tmp 17)=.slice HA hn hc)
  (lU:∀b bj bD v10 v11 aF aI aH F1 F2 bK bP w,g5 W s gn tn hn hx w 2 2 2 b bj bD v10 v11 aF aI aH F1 F2 bK bP->cN prog ops Q (Fr (λk=>¬k<ws)) [16] (.free 14 (Gy b)) (aa bj bD v10 v11 aF aI aH) w) :
  ∀(n g t h:Nat) (b:Bool),g<=2->t<=2->h<=2->(t=2->g=2)->(h=2->t=2)->7<n+g+t+h+b.toNat->∀bj bD v10 v11 aF aI aH F1 F2 bK bP w,g5 W s gn tn hn hx w g t h b bj bD v10 v11 aF aI aH F1 F2 bK bP->
   cN prog ops Q (Fr (λk=>¬k<ws)) [16] (jg n g t h b) (aa bj bD v10 v11 aF aI aH) w:=by
 intro n
 induction n with
 | zero=>intro g t h b a2 ht ag _ _ hn;cases b<;>simp at hn<;>omega
 | succ n ao=>
  intro g t h b a2 ht ag bH E J bj bD v10 v11 aF aI aH F1 F2 bK bP w hS;unfold jg;by_cases au:h=2
  .have ct:=E au;have bF:=bH ct;subst au ct bF;exact lU _ _ _ _ _ _ _ _ _ _ _ _ _ hS
  have bg:(h == 2)=false:=by simpa using au
  rw[bg];have br:=hS.lo;have U:=hS.ext.size;have ak:∀k∈F1++(F2++(bK++bP)),k<w.heap.size:=λk ap=>(br k ap).2;have z:∀o:Obj,Fr (λk=>¬k<ws) w (w.alloc o):=λo=>Ll.alloc o;have m:∀(o:Obj) (k:Nat),k<w.heap.size->(w.alloc o).heap[k]?=w.heap[k]?:=λo k ap=>Below.heap_alloc w o k ap;have bZ:∀o:Obj,(w.alloc o).heap.size=w.heap.size+1:=λo=>World.kH w o;intro i an;simp only[xp,KM] at an;rcases an with an|an|an|an|an|an|an
  ·
   cases u:(g == 0) with
   | false=>rw[u] at an;exact absurd an (by simp)
   | true=>
   rw[u] at an;have cP:g=0:=by simpa using u
   have i0:i=0:=by simpa using an
   subst cP i0;obtain⟨y,_,a5⟩:=hS.g.begin rfl;subst y;refine⟨_,o0,λK hK=>?_⟩;rw[if_pos (by rfl)];refine Ex (hK _ _ (λ_=>z _) ?_);rw[q7];refine ao 1 t h b ad ht ag ad E ad _ _ _ _ _ _ _ [w.heap.size] F2 bK bP _ ⟨hS.ext.alloc _,a5,hS.t.ak λk ap=>m _ k (ak k (g5.dh.2 (by simp[ap]))),hS.h.ak λk ap=>m _ k (ak k (g5.dh.2 (by simp[ap]))),?_,?_,?_⟩
   .rcases hS.o with ac|⟨ac,N,aU,bE,cF⟩
    .exact .inl ac
    .exact .inr ⟨ac,N,aU,bE,cF.alloc _⟩
   .exact pY (F1:=[]) hS.nd ak
   .intro k ap;rw[bZ];simp only[KM,KT,List.not_mem_nil,or_false] at ap;rcases ap with ap|ap
    .omega
    .have:=br k (by simpa using ap);omega
  ·
   cases u:(g == 1) with
   | false=>rw[u] at an;exact absurd an (by simp)
   | true=>
   rw[u] at an;have ca:g=1:=by simpa using u
   subst ca;have i0:i=3:=by simpa using an
   subst i0;refine⟨_,o3,λK hK=>?_⟩;rw[if_pos (by rfl)];refine iq.fill hS.g de (.tmp 7) (.tmp 9) rfl (e7 _ _ _ _ _ _ _) (e9 _ _ _ _ _ _ _) (by have:=Src.lv (hG.on (Fr.ext hS.ext)).ints (jA _) (mH _) ad;rwa [tG] at this) ad ad (λh=>by subst h;exact hG.none_) (λv ab R a5 cb bu r=>?_);have cn:=cb.size;have l:∀k∈F1,W.heap.size<=k:=λk ap=>(br k (g5.dh.2 (by simp[ap]))).1;have S:Ext W ab:=Fr.low (M:=λk=>k∈F1) (Fr.trans (Fr.mono hS.ext λ_ h=>h.elim) cb) l;refine hK _ _ (λ_=>cb.mono λk ap=>by have:=l k ap;omega) ?_;rw[EB];have j:∀k,k∈F1++(F2++(bK++bP))->k∉F1->ab.heap[k]?=w.heap[k]?:=λk ap hn=>cb.block k (ak k ap) hn;have n1:=List.nodup_append.1 hS.nd;have n2:=List.nodup_append.1 n1.2.1;have n3:=List.nodup_append.1 n2.2.1;refine ao 2 t h b ad ht ag ad E ad _ _ _ _ _ _ _ R F2 bK bP _ ⟨S,a5,hS.t.ak (λk ap=>j k (g5.dh.2 (by simp[ap])) (λac=>n1.2.2 k ac k (by simp[ap]) rfl)),hS.h.ak (λk ap=>j k (g5.dh.2 (by simp[ap])) (λac=>n1.2.2 k ac k (by simp[ap]) rfl)),?_,?_,?_⟩
   .rcases hS.o with ac|⟨ac,N,aU,bE,cF⟩
    .exact .inl ac
    .have q:∀k∈bP,k∉F1:=λk ap=>λac=>n1.2.2 k ac k (by simp[ap]) rfl;exact .inr ⟨ac,N,aU,bE,show _=_ from (j N (g5.dh.2 (by simp[bE])) (q N (by simp[bE]))).trans cF⟩
   .exact sP (A:=[]) hS.nd ak bu λk ap=>(r k ap).1
   .intro k ap;rcases g5.dh.1 ap with ap|ap|ap|ap
    .have:=r k ap;have:W.heap.size<=k:=by rcases this.1 with ac|ac;exact l k ac;omega
     omega
    .have:=br k (g5.dh.2 (by simp[ap]));omega
    .have:=br k (g5.dh.2 (by simp[ap]));omega
    .have:=br k (g5.dh.2 (by simp[ap]));omega
  ·
   cases u:(t == 0) with
   | false=>rw[u] at an;exact absurd an (by simp)
   | true=>
   rw[u] at an;have cP:t=0:=by simpa using u
   have i0:i=4:=by simpa using an
   subst cP i0;obtain⟨y,_,a5⟩:=hS.t.begin rfl;subst y;refine⟨_,o4,λK hK=>?_⟩;rw[if_pos (by rfl)];refine HK (hK _ _ (λ_=>z _) ?_);rw[IC];refine ao g 1 h b a2 ad ag ad (λh=>ad) ad _ _ _ _ _ _ _ F1 [w.heap.size] bK bP _ ⟨hS.ext.alloc _,hS.g.ak λk ap=>m _ k (ak k (g5.dh.2 (by simp[ap]))),a5,hS.h.ak λk ap=>m _ k (ak k (g5.dh.2 (by simp[ap]))),?_,?_,?_⟩
   .rcases hS.o with ac|⟨ac,N,aU,bE,cF⟩
    .exact .inl ac
    .exact .inr ⟨ac,N,aU,bE,cF.alloc _⟩
   .exact pY (F1:=F1) hS.nd ak
   .intro k ap;rw[bZ];rcases g5.dh.1 ap with ap|ap|ap|ap
    .have:=br k (g5.dh.2 (by simp[ap]));omega
    .have:=Lf.1 ap;omega
    .have:=br k (g5.dh.2 (by simp[ap]));omega
    .have:=br k (g5.dh.2 (by simp[ap]));omega
  ·
   cases u:(t == 1 && g == 2) with
   | false=>rw[u] at an;exact absurd an (by simp)
   | true=>
   rw[u] at an;simp only[KP,beq_iff_eq] at u;obtain⟨t1,g2⟩:=u;subst t1 g2;have i0:i=7:=by simpa using an
   subst i0;refine⟨_,o7,λK hK=>?_⟩;rw[if_pos (by rfl)];refine iq.fill hS.t kN (.tmp 11) (.tmp 13) rfl (I2 _ _ _ _ _ _ _) (I3 _ _ _ _ _ _ _) (Src.lv (hT.on (Fr.ext hS.ext)).holds (eE _) (k4 _) ad) ad ad (λh=>by subst h;exact hT.none_) (λv ab R a5 cb bu r=>?_);have cn:=cb.size;have l:∀k∈F2,W.heap.size<=k:=λk ap=>(br k (g5.dh.2 (by simp[ap]))).1;have S:Ext W ab:=Fr.low (M:=λk=>k∈F2) (Fr.trans (Fr.mono hS.ext λ_ h=>h.elim) cb) l;refine hK _ _ (λ_=>cb.mono λk ap=>by have:=l k ap;omega) ?_;rw[Jo];have j:∀k,k∈F1++(F2++(bK++bP))->k∉F2->ab.heap[k]?=w.heap[k]?:=λk ap hn=>cb.block k (ak k ap) hn;have n1:=List.nodup_append.1 hS.nd;have n2:=List.nodup_append.1 n1.2.1;have n3:=List.nodup_append.1 n2.2.1;refine ao 2 2 h b a2 ad ag ad ad ad _ _ _ _ _ _ _ F1 R bK bP _ ⟨S,hS.g.ak (λk ap=>j k (g5.dh.2 (by simp[ap])) (λac=>n1.2.2 k ap k (by simp[ac]) rfl)),a5,hS.h.ak (λk ap=>j k (g5.dh.2 (by simp[ap])) (λac=>n2.2.2 k ac k (by simp[ap]) rfl)),?_,?_,?_⟩
   .rcases hS.o with ac|⟨ac,N,aU,bE,cF⟩
    .exact .inl ac
    .have q:∀k∈bP,k∉F2:=λk ap=>λac=>n2.2.2 k ac k (by simp[ap]) rfl;exact .inr ⟨ac,N,aU,bE,show _=_ from (j N (g5.dh.2 (by simp[bE])) (q N (by simp[bE]))).trans cF⟩
   .exact sP (A:=F1) hS.nd ak bu λk ap=>(r k ap).1
   .intro k ap;rcases g5.dh.1 ap with ap|ap|ap|ap
    .have:=br k (g5.dh.2 (by simp[ap]));omega
    .have:=r k ap;have:W.heap.size<=k:=by rcases this.1 with ac|ac;exact l k ac;omega
     omega
    .have:=br k (g5.dh.2 (by simp[ap]));omega
    .have:=br k (g5.dh.2 (by simp[ap]));omega
  ·
   cases u:(h == 0) with
   | false=>rw[u] at an;exact absurd an (by simp)
   | true=>
   rw[u] at an;have cP:h=0:=by simpa using u
   have i0:i=8:=by simpa using an
   subst cP i0;obtain⟨y,_,a5⟩:=hS.h.begin rfl;subst y;refine⟨_,o8,λK hK=>?_⟩;rw[if_pos (by rfl)];refine HL (hK _ _ (λ_=>z _) ?_);rw[Jp];refine ao g t 1 b a2 ht ad bH ad ad _ _ _ _ _ _ _ F1 F2 [w.heap.size] bP _ ⟨hS.ext.alloc _,hS.g.ak λk ap=>m _ k (ak k (g5.dh.2 (by simp[ap]))),hS.t.ak λk ap=>m _ k (ak k (g5.dh.2 (by simp[ap]))),a5,?_,?_,?_⟩
   .rcases hS.o with ac|⟨ac,N,aU,bE,cF⟩
    .exact .inl ac
    .exact .inr ⟨ac,N,aU,bE,cF.alloc _⟩
   .have:=pY (F1:=F1++F2) (F2:=bP) (by simpa using hS.nd) (by simpa using ak);simpa using this
   .intro k ap;rw[bZ];rcases g5.dh.1 ap with ap|ap|ap|ap
    .have:=br k (g5.dh.2 (by simp[ap]));omega
    .have:=br k (g5.dh.2 (by simp[ap]));omega
    .have:=Lf.1 ap;omega
    .have:=br k (g5.dh.2 (by simp[ap]));omega
  ·
   cases u:(h == 1 && t == 2) with
   | false=>rw[u] at an;exact absurd an (by simp)
   | true=>
   rw[u] at an;simp only[KP,beq_iff_eq] at u;obtain⟨ac,t2⟩:=u;have g2:=bH t2;subst ac t2 g2;have i0:i=11:=by simpa using an
   subst i0;refine⟨_,Jd,λK hK=>?_⟩;rw[if_pos (by rfl)];refine iq.fill hS.h sr (.tmp 15) (.tmp 17) rfl (I4 _ _ _ _ _ _ _) (I5 _ _ _ _ _ _ _) (hH.on (Fr.ext hS.ext)) ad ad Ja (λv ab R a5 cb bu r=>?_);have cn:=cb.size;have l:∀k∈bK,W.heap.size<=k:=λk ap=>(br k (g5.dh.2 (by simp[ap]))).1;have S:Ext W ab:=Fr.low (M:=λk=>k∈bK) (Fr.trans (Fr.mono hS.ext λ_ h=>h.elim) cb) l;refine hK _ _ (λ_=>cb.mono λk ap=>by have:=l k ap;omega) ?_;rw[Jq];have j:∀k,k∈F1++(F2++(bK++bP))->k∉bK->ab.heap[k]?=w.heap[k]?:=λk ap hn=>cb.block k (ak k ap) hn;have n1:=List.nodup_append.1 hS.nd;have n2:=List.nodup_append.1 n1.2.1;have n3:=List.nodup_append.1 n2.2.1;refine ao 2 2 2 b a2 ht ad ad ad ad _ _ _ _ _ _ _ F1 F2 R bP _ ⟨S,hS.g.ak (λk ap=>j k (g5.dh.2 (by simp[ap])) (λac=>n1.2.2 k ap k (by simp[ac]) rfl)),hS.t.ak (λk ap=>j k (g5.dh.2 (by simp[ap])) (λac=>n2.2.2 k ap k (by simp[ac]) rfl)),a5,?_,?_,?_⟩
   .rcases hS.o with ac|⟨ac,N,aU,bE,cF⟩
    .exact .inl ac
    .have q:∀k∈bP,k∉bK:=λk ap=>λac=>n3.2.2 k ac k ap rfl;exact .inr ⟨ac,N,aU,bE,show _=_ from (j N (g5.dh.2 (by simp[bE])) (q N (by simp[bE]))).trans cF⟩
   .have:=sP (A:=F1++F2) (B:=bK) (C:=bP) (by simpa using hS.nd) (by simpa using ak) bu (λk ap=>(r k ap).1);simpa using this
   .intro k ap;rcases g5.dh.1 ap with ap|ap|ap|ap
    .have:=br k (g5.dh.2 (by simp[ap]));omega
    .have:=br k (g5.dh.2 (by simp[ap]));omega
    .have:=r k ap;have:W.heap.size<=k:=by rcases this.1 with ac|ac;exact l k ac;omega
     omega
    .have:=br k (g5.dh.2 (by simp[ap]));omega
  ·
   cases b with
   | true=>simp at an
   | false=>
   have i0:i=15:=by simpa using an
   subst i0;refine⟨_,Je,λK hK=>?_⟩;rw[if_pos (by rfl)];refine HJ (hK _ _ (λ_=>z _) ?_);rw[q5];have bE:bP=[]:=by
    rcases hS.o with⟨_,_,h⟩|⟨h,_⟩
    .exact h
    .cases h
   subst bE;refine ao g t h true a2 ht ag bH E (by simp at J ⊢;omega) _ _ _ _ _ _ _ F1 F2 bK [w.heap.size] _ ⟨hS.ext.alloc _,hS.g.ak λk ap=>m _ k (ak k (g5.dh.2 (by simp[ap]))),hS.t.ak λk ap=>m _ k (ak k (g5.dh.2 (by simp[ap]))),hS.h.ak λk ap=>m _ k (ak k (g5.dh.2 (by simp[ap]))),.inr ⟨rfl,_,rfl,rfl,Lm⟩,?_,?_⟩
   .have:=pY (F1:=F1++(F2++bK)) (F2:=[]) (by simpa using hS.nd) (by simpa using ak);simpa using this
   .intro k ap;rw[bZ];rcases g5.dh.1 ap with ap|ap|ap|ap
    .have:=br k (g5.dh.2 (by simp[ap]));omega
    .have:=br k (g5.dh.2 (by simp[ap]));omega
    .have:=br k (g5.dh.2 (by simp[ap]));omega
    .have:=Lf.1 ap;omega
end
end Go.Proofs.YtglbpimocmhojaaGreat

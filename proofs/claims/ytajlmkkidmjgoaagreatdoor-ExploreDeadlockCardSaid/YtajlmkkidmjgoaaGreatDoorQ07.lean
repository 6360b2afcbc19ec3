/- Part 7 of the proof. No condition of its own. -/
import Derived.Test.YtajlmkkidmjgoaaGreatDoorQ03
namespace Go.Proofs.YtajlmkkidmjgoaaGreatDoor
open Go.RowKit Go.Proofs.Tryz
set_option maxRecDepth 1000000
set_option maxHeartbeats 25600000
set_option linter.unusedVariables false
variable{a:Act}{K:Act->World->Prop}{d:D}{rest:List Oper}{cs xs:List Value}{M:Nat->Prop}{o:Oper}{G p:Prop}{α β γ:Type}{S:World}
section
attribute [local go_sem ↓] gN gO
theorem jJ(b:Bool)(w:World):Calls prog 135 #[.bool b] w λe ab=>e=.returned (.int .i64 (gQ b))/\w=ab:=by
 cases b<;>(go_enter func135,ntmps135;go_wp2;go_ret;exact⟨rfl,rfl⟩)
theorem nn(A:IP)(n c:Nat)(l:List Int)(k:Int)(w:World)(h:cJ (EF cD) 1 w w.heap.size A n l)(h0:0<=k)(ac:k<n) :
  Calls prog 134 #[.slice A n c,.int .i64 k] w λe ab=>e=.returned (.int .i64 (l.getD k.toNat 0))/\w=ab:=by
 obtain⟨j,rfl⟩:=Ic h0;obtain⟨b,o,x,rfl,O,hx,hc⟩:=h.int (show j<n by omega);have a1:j<n:=ad;have aV:=ae (show l.getD (j:Int).toNat 0=x by rw[Iw,List.getD_eq_getElem?_getD,hx];rfl);clear hx h;go_enter func134,ntmps134;go_wp2;go_ret;exact⟨ret_int (by rw[aV.o]),rfl⟩
def jV(w:World)(r:Int×Int)(e:Ending)(ab:World):Prop:=e=.returned (.tuple #[.int .i64 r.1,.int .i64 r.2])/\Below w.heap.size w ab
theorem jV.mk'{w ab:World}{r:Int×Int}{a b:Int}(aY:r=(a,b))(O:Below w.heap.size w ab):jV w r (.returned (.tuple #[.int .i64 a,.int .i64 b])) ab:=by
 subst aY;exact⟨rfl,O⟩
theorem oy(op a b:Int)(h:5<=op/\op<=15)(w:World) :
  Calls prog 136 #[.int .i64 op,.int .i64 a,.int .i64 b] w (jV w (arith op a b)):=by
 by_cases hdiv:(op=6\/op=7)/\b=0
 .obtain⟨ch,rfl⟩:=hdiv;rcases ch with rfl|rfl
  all_goals
   go_enter func136,ntmps136;go_wp2
   go_ret2
   exact jV.mk' rfl (Below.refl _ _)
 .obtain rfl|rfl|rfl|rfl|rfl|rfl|rfl|rfl|rfl|rfl|rfl:op=5\/op=6\/op=7\/op=8\/op=9\/op=10\/op=11\/op=12\/op=13\/op=14\/op=15:=ad
  case inr.inl=>
   have O:b≠0:=λaG=>hdiv ⟨.inl rfl,aG⟩;have cR:(b == 0)=false:=by simpa using O
   have HA:=ae (show arith 6 a b=(wrap64 (a.tdiv b),0) by unfold arith;simp[O]);clear hdiv h;go_enter func136,ntmps136;go_wp2
   go_ret2
   exact jV.mk' HA.o (Below.refl _ _)
  case inr.inr.inl=>
   have O:b≠0:=λaG=>hdiv ⟨.inr rfl,aG⟩;have cR:(b == 0)=false:=by simpa using O
   have HA:=ae (show arith 7 a b=(a.tmod b,0) by unfold arith;simp[O]);clear hdiv h;go_enter func136,ntmps136;go_wp2
   go_ret2
   exact jV.mk' HA.o (Below.refl _ _)
  all_goals
   clear hdiv h;go_enter func136,ntmps136;go_wp2_with((go_at_call 135;refine(jJ _ _).mono ?_;rintro e ab ⟨rfl,rfl⟩))
   go_ret2
   exact jV.mk' rfl (Below.refl _ _)
end
section
attribute [local go_sem ↓] gN gO
structure lP(w:World)(G L:IP)(ng nl:Nat)(g l:List Int)(e:VE)(cs:List Value):Prop where
 gs:cJ (EF cD) 1 w w.heap.size G ng g
 ls:cJ (EF cD) 1 w w.heap.size L nl l
 ok:e.ok ng nl
 rep:e.at_ w cs
theorem lP.on{w ab:World}{G L:IP}{ng nl:Nat}{g l:List Int}{e:VE}(h:lP w G L ng nl g l e cs)(O:Below w.heap.size w ab):lP ab G L ng nl g l e cs:=
 ⟨h.gs.dh O O.size,h.ls.dh O O.size,h.ok,VE.FO h.rep O⟩
def iJ(e:VE):Prop:=∀(w:World) (G L:IP) (ng nl cg cl:Nat) (g l:List Int) (c0 c1 c2 c3:Value),lP w G L ng nl g l e [c0,c1,c2,c3]->
 Calls prog 124 #[.agg #[.slice G ng cg,.slice L nl cl],.agg #[c0,c1,c2,c3]] w (jV w (ev g l e))
def jo(e:VE):Prop:=∀(w:World) (G L:IP) (ng nl cg cl:Nat) (g l:List Int) (c0 c1 c2 c3:Value),lP w G L ng nl g l e [c0,c1,c2,c3]->
 Calls prog 130 #[.agg #[.slice G ng cg,.slice L nl cl],.agg #[c0,c1,c2,c3]] w (jV w (ev g l e))
def od(e:VE):Prop:=∀(w:World) (G L:IP) (ng nl cg cl:Nat) (g l:List Int) (c0 c1 c2 c3:Value),lP w G L ng nl g l e [c0,c1,c2,c3]->
 Calls prog 131 #[.agg #[.slice G ng cg,.slice L nl cl],.agg #[c0,c1,c2,c3]] w (jV w (ev g l e))
theorem ll{w:World}(a b:Obj):Below w.heap.size w ((w.alloc a).alloc b):=((Below.refl _ _).alloc (Hx _) _).alloc (by simp) _
theorem uW(n:Int):jo (.num n):=by
 intro w G L ng nl cg cl g l c0 c1 c2 c3 h;obtain⟨nm,A,c,T⟩:=h.rep;injection T with h0 T;injection T with ac T;injection T with J T;injection T with aR T;subst h0 ac J aR;clear h T;go_enter func130,ntmps130;go_wp2
 go_ret2
 exact jV.mk' rfl (ll _ _)
namespace zk
theorem y9(h:p:=by
 have u:=ae bz;clear U e0 e1 e2 e3 bz;have al:∀V:World,Below W.heap.size W V->V.cell? ⟨w.heap.size,0,none⟩=some (.slice G ng cg)/\V.cell? ⟨w.heap.size,1,none⟩=some (.slice L nl cl)/\V.cell? ⟨w.heap.size+1,0,none⟩=some (.int .i64 op)/\V.cell? ⟨w.heap.size+1,3,none⟩=some (.slice (some ⟨b,o,none⟩) 1 c)/\
   V.cell? ⟨b,o,none⟩=some bU/\V.cell? ⟨b,o+1,none⟩=some Z/\V.cell? ⟨b,o+2,none⟩=some ay/\V.cell? ⟨b,o+3,none⟩=some F:=λV hV=>by
  have bT:=u.o;have ao:b<W.heap.size:=by have:=O;omega
  exact⟨(hV.cell (p:=⟨w.heap.size,0,none⟩) (by simp only[];omega)).trans aI,(hV.cell (p:=⟨w.heap.size,1,none⟩) (by simp only[];omega)).trans z,(hV.cell (p:=⟨w.heap.size+1,0,none⟩) (by simp only[];omega)).trans be,(hV.cell (p:=⟨w.heap.size+1,3,none⟩) (by simp only[];omega)).trans j,
   (hV.cell (p:=⟨b,o,none⟩) ao).trans d0,(hV.cell (p:=⟨b,o+1,none⟩) ao).trans d1,(hV.cell (p:=⟨b,o+2,none⟩) ao).trans d2,(hV.cell (p:=⟨b,o+3,none⟩) ao).trans d3⟩
 have cI:=ae al;clear al aI z be j d0 d1 d2 d3;go_region_held3 (λV=>V.cell? ⟨w.heap.size,0,none⟩=some (.slice G ng cg)/\V.cell? ⟨w.heap.size,1,none⟩=some (.slice L nl cl)/\V.cell? ⟨w.heap.size+1,0,none⟩=some (.int .i64 op)/\V.cell? ⟨w.heap.size+1,3,none⟩=some (.slice (some ⟨b,o,none⟩) 1 c)/\
   V.cell? ⟨b,o,none⟩=some bU/\V.cell? ⟨b,o+1,none⟩=some Z/\V.cell? ⟨b,o+2,none⟩=some ay/\V.cell? ⟨b,o+3,none⟩=some F)
  (first|exact cI.o _ (Below.refl _ _)|exact cI.o _ (Below.refl _ _).drew|exact cI.o _ bw)
  (first|(go_at_call 124;refine(c6.o _ G L ng nl cg cl g l bU Z ay F ?_).mono ?_;(exact ba.on (Below.refl _ _).drew);rintro r ab ⟨rfl,d⟩;have bw:Below W.heap.size W ab:=(Below.refl W.heap.size W).drew.trans d;clear d))
 have aA:=(f.trans (bw.mono f.size))
 have bf:=ae (show ev g l (.un op x)=if (ev g l x).2≠0 then (0,(ev g l x).2) else if op=3 then (wrap64 (-(ev g l x).1),0) else (gQ ((ev g l x).1 == 0),0) from rfl);generalize ev g l x=r1 at *;obtain⟨v1,f1⟩:=r1;clear cI c6 ba;by_cases N:f1=0
 case neg=>
  have q1:(f1 != 0)=true:=by simpa using N
  have a3:=ae (show ev g l (.un op x)=(0,f1) by rw[bf.o];simp[N]);clear N;go_wp2
  go_ret2
  exact jV.mk' a3.o aA
 have q1:(f1 != 0)=false:=by simpa using N
 rcases cL.o with aR|bv
 .have a3:=ae (show ev g l (.un op x)=(wrap64 (-v1),0) by rw[bf.o];simp[N,aR]);subst aR;clear N;go_wp2
  go_ret2
  exact jV.mk' a3.o aA
 .have a3:=ae (show ev g l (.un op x)=(gQ (v1 == 0),0) by rw[bf.o];simp[N,bv]);subst bv;clear N;go_wp2_with((go_at_call 135;refine(jJ _ _).mono ?_;rintro e ab ⟨rfl,rfl⟩))
  go_ret2
  exact jV.mk' a3.o aA
 ):p:=h
end zk
open zk in
theorem xB(op:Int)(x:VE)(Q:iJ x):jo (.un op x):=by
 intro w G L ng nl cg cl g l c0 c1 c2 c3 h;obtain⟨n,nm,b,o,c,bU,Z,ay,F,T,O,hx,e0,e1,e2,e3⟩:=h.rep;injection T with h0 T;injection T with ac T;injection T with J T;injection T with aR T;subst h0 ac J aR;clear T;have ch:=h.ok.1;have U:lP w G L ng nl g l x [bU,Z,ay,F]:=⟨h.gs,h.ls,h.ok.2,hx⟩
 obtain⟨c6,cL⟩:=aN Q ch;clear h hx Q;have b0:(op == 1)=false:=by simp;omega
 have g2:(op == 18)=false:=by simp;omega
 have cB:(op == 19)=false:=by simp;omega
 clear ch;go_enter func130,ntmps130;go_wp2;have f:=ll (w:=w) (.cells #[.slice G ng cg,.slice L nl cl] 237) (.cells #[.int .i64 op,.int .i64 n,.string nm,.slice (some ⟨b,o,none⟩) 1 c] 128);have aI:((w.alloc (.cells #[.slice G ng cg,.slice L nl cl] 237)).alloc (.cells #[.int .i64 op,.int .i64 n,.string nm,.slice (some ⟨b,o,none⟩) 1 c] 128)).cell? ⟨w.heap.size,0,none⟩=some (.slice G ng cg):=by simp[go_sem]
 have z:((w.alloc (.cells #[.slice G ng cg,.slice L nl cl] 237)).alloc (.cells #[.int .i64 op,.int .i64 n,.string nm,.slice (some ⟨b,o,none⟩) 1 c] 128)).cell? ⟨w.heap.size,1,none⟩=some (.slice L nl cl):=by simp[go_sem]
 have be:((w.alloc (.cells #[.slice G ng cg,.slice L nl cl] 237)).alloc (.cells #[.int .i64 op,.int .i64 n,.string nm,.slice (some ⟨b,o,none⟩) 1 c] 128)).cell? ⟨w.heap.size+1,0,none⟩=some (.int .i64 op):=by simp[go_sem]
 have j:((w.alloc (.cells #[.slice G ng cg,.slice L nl cl] 237)).alloc (.cells #[.int .i64 op,.int .i64 n,.string nm,.slice (some ⟨b,o,none⟩) 1 c] 128)).cell? ⟨w.heap.size+1,3,none⟩=some (.slice (some ⟨b,o,none⟩) 1 c):=by simp[go_sem]
 have bz:((w.alloc (.cells #[.slice G ng cg,.slice L nl cl] 237)).alloc (.cells #[.int .i64 op,.int .i64 n,.string nm,.slice (some ⟨b,o,none⟩) 1 c] 128)).heap.size=w.heap.size+2:=by simp
 generalize (w.alloc (.cells #[.slice G ng cg,.slice L nl cl] 237)).alloc (.cells #[.int .i64 op,.int .i64 n,.string nm,.slice (some ⟨b,o,none⟩) 1 c] 128)=W at *;have ba:=U.on f;exact y8
theorem pC(e:VE)(k:Int)(he:e=.loc k\/e=.iq k):jo e:=by
 intro w G L ng nl cg cl g l c0 c1 c2 c3 h;have a:=ll (w:=w) (.cells #[.slice G ng cg,.slice L nl cl] 237) (.cells #[c0,c1,c2,c3] 128);have bY:=h.gs.dh a a.size;have y:=h.ls.dh a a.size;clear a;have cc:=h.ok;rcases he with rfl|rfl
 all_goals
  obtain⟨nm,A,c,T⟩:=h.rep;injection T with h0 T;injection T with ac T;injection T with J T;injection T with aR T;subst h0 ac J aR;clear h T;obtain⟨bK,b7⟩:=cc;go_enter func130,ntmps130;go_wp2_with(fail)
  first
  | refine(nn L nl cl l k _ y bK b7).mono ?_
  | refine(nn G ng cg g k _ bY bK b7).mono ?_
  rintro e ab ⟨rfl,rfl⟩;go_wp2
  go_ret2
  exact jV.mk' rfl (ll _ _)
namespace zl
theorem y9(h:p:=by
 have d4:=(f.cell (p:=⟨b,o+4,none⟩) O).trans cH;have d5:=(f.cell (p:=⟨b,o+5,none⟩) O).trans cV;have d6:=(f.cell (p:=⟨b,o+6,none⟩) O).trans bQ;have d7:=(f.cell (p:=⟨b,o+7,none⟩) O).trans k;have u:=ae bz;clear U i e0 e1 e2 e3 cH cV bQ k bz;have al:∀V:World,Below W.heap.size W V->V.cell? ⟨w.heap.size,0,none⟩=some (.slice G ng cg)/\V.cell? ⟨w.heap.size,1,none⟩=some (.slice L nl cl)/\V.cell? ⟨w.heap.size+1,0,none⟩=some (.int .i64 op)/\V.cell? ⟨w.heap.size+1,3,none⟩=some (.slice (some ⟨b,o,none⟩) 2 c)/\V.cell? ⟨b,o,none⟩=some bU/\V.cell? ⟨b,o+1,none⟩=some Z/\V.cell? ⟨b,o+2,none⟩=some ay/\V.cell? ⟨b,o+3,none⟩=some F/\V.cell? ⟨b,o+4,none⟩=some b1/\V.cell? ⟨b,o+5,none⟩=some cj/\V.cell? ⟨b,o+6,none⟩=some bp/\V.cell? ⟨b,o+7,none⟩=some aJ:=λV hV=>by
  have bT:=u.o;have ao:b<W.heap.size:=by have:=O;omega
  exact⟨(hV.cell (p:=⟨w.heap.size,0,none⟩) (by simp only[];omega)).trans aI,(hV.cell (p:=⟨w.heap.size,1,none⟩) (by simp only[];omega)).trans z,(hV.cell (p:=⟨w.heap.size+1,0,none⟩) (by simp only[];omega)).trans be,(hV.cell (p:=⟨w.heap.size+1,3,none⟩) (by simp only[];omega)).trans j,(hV.cell (p:=⟨b,o,none⟩) ao).trans d0,(hV.cell (p:=⟨b,o+1,none⟩) ao).trans d1,(hV.cell (p:=⟨b,o+2,none⟩) ao).trans d2,(hV.cell (p:=⟨b,o+3,none⟩) ao).trans d3,(hV.cell (p:=⟨b,o+4,none⟩) ao).trans d4,(hV.cell (p:=⟨b,o+5,none⟩) ao).trans d5,(hV.cell (p:=⟨b,o+6,none⟩) ao).trans d6,(hV.cell (p:=⟨b,o+7,none⟩) ao).trans d7⟩
 have cI:=ae al;clear al aI z be j d0 d1 d2 d3 d4 d5 d6 d7;go_region_held3 (λV=>V.cell? ⟨w.heap.size,0,none⟩=some (.slice G ng cg)/\V.cell? ⟨w.heap.size,1,none⟩=some (.slice L nl cl)/\V.cell? ⟨w.heap.size+1,0,none⟩=some (.int .i64 op)/\V.cell? ⟨w.heap.size+1,3,none⟩=some (.slice (some ⟨b,o,none⟩) 2 c)/\V.cell? ⟨b,o,none⟩=some bU/\V.cell? ⟨b,o+1,none⟩=some Z/\V.cell? ⟨b,o+2,none⟩=some ay/\V.cell? ⟨b,o+3,none⟩=some F/\V.cell? ⟨b,o+4,none⟩=some b1/\V.cell? ⟨b,o+5,none⟩=some cj/\V.cell? ⟨b,o+6,none⟩=some bp/\V.cell? ⟨b,o+7,none⟩=some aJ)
  (first|exact cI.o _ (Below.refl _ _)|exact cI.o _ (Below.refl _ _).drew|exact cI.o _ bw|exact cI.o _ bw|exact cI.o _ bw.drew)
  (first|(go_at_call 124;refine(c6.o _ G L ng nl cg cl g l bU Z ay F ?_).mono ?_;(exact ba.on (Below.refl _ _).drew);rintro r aT ⟨rfl,d⟩;have bw:Below W.heap.size W aT:=(Below.refl W.heap.size W).drew.trans (d.mono (Hx _));clear d))
 have aA:=(f.trans (bw.mono f.size))
 have bf:=ae (show ev g l (.bin op x y)=if (ev g l x).2≠0 then (0,(ev g l x).2) else if op=16/\(ev g l x).1=0 then (0,0) else if op=17/\(ev g l x).1≠0 then (1,0) else if (ev g l y).2≠0 then (0,(ev g l y).2) else if op=16\/op=17 then (gQ ((ev g l y).1 != 0),0) else arith op (ev g l x).1 (ev g l y).1 from rfl);generalize ev g l x=r1 at *;obtain⟨v1,f1⟩:=r1;clear c6 ba;by_cases N:f1=0
 case neg=>
  have q1:(f1 != 0)=true:=by simpa using N
  have a3:=ae (show ev g l (.bin op x y)=(0,f1) by rw[bf.o];simp[N]);clear N;go_wp2
  go_ret2
  exact jV.mk' a3.o aA
 have q1:(f1 != 0)=false:=by simpa using N
 have bZ:=ae N;clear N;by_cases I:op=16/\v1=0
 .obtain⟨rfl,rfl⟩:=I;have a3:=ae (show ev g l (.bin 16 x y)=(0,0) by rw[bf.o];simp[bZ.o]);go_wp2
  go_ret2
  exact jV.mk' a3.o aA
 by_cases bu:op=17/\v1≠0
 .obtain⟨rfl,bC⟩:=bu;have dq:(v1 != 0)=true:=by simpa using bC
  have a3:=ae (show ev g l (.bin 17 x y)=(1,0) by rw[bf.o];simp[bZ.o,bC]);clear bC;go_wp2
  go_ret2
  exact jV.mk' a3.o aA
 have bl:=ae (show ev g l (.bin op x y)=if (ev g l y).2≠0 then (0,(ev g l y).2) else if op=16\/op=17 then (gQ ((ev g l y).1 != 0),0) else arith op v1 (ev g l y).1 by rw[bf.o];simp only[bZ.o,ne_eq,not_true_eq_false,if_false];rw[if_neg I,if_neg bu]);obtain⟨HA,cL⟩:=aN I bu;clear bf;have split:(op == 16)=true/\(v1 == 0)=false/\(op == 17)=false\/(op == 16)=false/\(op == 17)=true/\(v1 != 0)=false\/(op == 16)=false/\(op == 17)=false:=by
  by_cases ac:op=16
  .refine .inl ⟨by simpa using ac,?_,by simp;omega⟩;have:v1≠0:=λaG=>I ⟨ac,aG⟩;simpa using this
  .by_cases J:op=17
   .refine .inr (.inl ⟨by simpa using ac,by simpa using J,?_⟩);by_cases bC:v1=0
    .simpa using bC
    .exact absurd ⟨J,bC⟩ bu
   .exact .inr (.inr ⟨by simpa using ac,by simpa using J⟩)
 clear I bu;have bs:=ae split;clear split;rcases bs.o with⟨R,a5,dr⟩|⟨R,a5,dr⟩|⟨R,a5⟩
 all_goals
  go_wp2;go_region_held3 (λV=>V.cell? ⟨w.heap.size,0,none⟩=some (.slice G ng cg)/\V.cell? ⟨w.heap.size,1,none⟩=some (.slice L nl cl)/\V.cell? ⟨w.heap.size+1,0,none⟩=some (.int .i64 op)/\V.cell? ⟨w.heap.size+1,3,none⟩=some (.slice (some ⟨b,o,none⟩) 2 c)/\V.cell? ⟨b,o,none⟩=some bU/\V.cell? ⟨b,o+1,none⟩=some Z/\V.cell? ⟨b,o+2,none⟩=some ay/\V.cell? ⟨b,o+3,none⟩=some F/\V.cell? ⟨b,o+4,none⟩=some b1/\V.cell? ⟨b,o+5,none⟩=some cj/\V.cell? ⟨b,o+6,none⟩=some bp/\V.cell? ⟨b,o+7,none⟩=some aJ)
   (first|exact cI.o _ (Below.refl _ _)|exact cI.o _ (Below.refl _ _).drew|exact cI.o _ bq|exact cI.o _ bw|exact cI.o _ bw.drew)
   (first|(go_at_call 124;refine(q.o _ G L ng nl cg cl g l b1 cj bp aJ ?_).mono ?_;(exact(aM.on bw).on (Below.refl _ _).drew);rintro r b4 ⟨rfl,d⟩;have bq:Below W.heap.size W b4:=bw.drew.trans (d.mono bw.size);clear d))
  have aA:=(f.trans (bq.mono f.size))
  generalize ev g l y=fZ at *;obtain⟨v2,f2⟩:=fZ;by_cases az:f2=0
  case neg=>
   have dg:(f2 != 0)=true:=by simpa using az
   have cv:=ae (show ev g l (.bin op x y)=(0,f2) by rw[bl.o];simp[az]);clear az;go_wp2
   go_ret2
   exact jV.mk' cv.o aA
  have dg:(f2 != 0)=false:=by simpa using az
  have cv:=ae (show ev g l (.bin op x y)=if op=16\/op=17 then (gQ (v2 != 0),0) else arith op v1 v2 by rw[bl.o];simp[az]);clear az bl
  first
  | (have X:=ae (show ev g l (.bin op x y)=(gQ (v2 != 0),0) by rw[cv.o,if_pos (by first|exact .inl (by simpa using R)|exact .inr (by simpa using a5))]);go_wp2_with((go_at_call 135;refine(jJ _ _).mono ?_;rintro e ab ⟨rfl,rfl⟩));go_ret2;exact jV.mk' X.o aA)
  | (have aZ:op≠16/\op≠17:=⟨by simpa using R,by simpa using a5⟩;have X:=ae (show ev g l (.bin op x y)=arith op v1 v2 by rw[cv.o,if_neg ad]);go_wp2_with(fail);refine(oy op v1 v2 ad _).mono ?_;rintro e eG ⟨rfl,v⟩;go_wp2;go_ret2;exact jV.mk' (by rw[X.o]) (aA.trans (v.mono aA.size)))
 ):p:=h
end zl
open zl in
theorem tV(op:Int)(x y:VE)(m:iJ x)(s:iJ y):od (.bin op x y):=by
 intro w G L ng nl cg cl g l c0 c1 c2 c3 h;obtain⟨n,nm,b,o,c,bU,Z,ay,F,b1,cj,bp,aJ,T,O,hx,a4,e0,e1,e2,e3,cH,cV,bQ,k⟩:=h.rep;injection T with h0 T;injection T with ac T;injection T with J T;injection T with aR T;subst h0 ac J aR;clear T;have ch:=h.ok.1;have U:lP w G L ng nl g l x [bU,Z,ay,F]:=⟨h.gs,h.ls,h.ok.2.1,hx⟩
 have i:lP w G L ng nl g l y [b1,cj,bp,aJ]:=⟨h.gs,h.ls,h.ok.2.2,a4⟩
 obtain⟨c6,q⟩:=aN m s;clear h hx a4 m s;go_enter func131,ntmps131;go_wp2;have f:=ll (w:=w) (.cells #[.slice G ng cg,.slice L nl cl] 237) (.cells #[.int .i64 op,.int .i64 n,.string nm,.slice (some ⟨b,o,none⟩) 2 c] 128);have aI:((w.alloc (.cells #[.slice G ng cg,.slice L nl cl] 237)).alloc (.cells #[.int .i64 op,.int .i64 n,.string nm,.slice (some ⟨b,o,none⟩) 2 c] 128)).cell? ⟨w.heap.size,0,none⟩=some (.slice G ng cg):=by simp[go_sem]
 have z:((w.alloc (.cells #[.slice G ng cg,.slice L nl cl] 237)).alloc (.cells #[.int .i64 op,.int .i64 n,.string nm,.slice (some ⟨b,o,none⟩) 2 c] 128)).cell? ⟨w.heap.size,1,none⟩=some (.slice L nl cl):=by simp[go_sem]
 have be:((w.alloc (.cells #[.slice G ng cg,.slice L nl cl] 237)).alloc (.cells #[.int .i64 op,.int .i64 n,.string nm,.slice (some ⟨b,o,none⟩) 2 c] 128)).cell? ⟨w.heap.size+1,0,none⟩=some (.int .i64 op):=by simp[go_sem]
 have j:((w.alloc (.cells #[.slice G ng cg,.slice L nl cl] 237)).alloc (.cells #[.int .i64 op,.int .i64 n,.string nm,.slice (some ⟨b,o,none⟩) 2 c] 128)).cell? ⟨w.heap.size+1,3,none⟩=some (.slice (some ⟨b,o,none⟩) 2 c):=by simp[go_sem]
 have bz:((w.alloc (.cells #[.slice G ng cg,.slice L nl cl] 237)).alloc (.cells #[.int .i64 op,.int .i64 n,.string nm,.slice (some ⟨b,o,none⟩) 2 c] 128)).heap.size=w.heap.size+2:=by simp
 generalize (w.alloc (.cells #[.slice G ng cg,.slice L nl cl] 237)).alloc (.cells #[.int .i64 op,.int .i64 n,.string nm,.slice (some ⟨b,o,none⟩) 2 c] 128)=W at *;have ba:=U.on f;have aM:=i.on f;exact y8
theorem l7(e:VE)(S:jo e)(hl:∀w cs,e.at_ w cs->∃op n nm A k c,cs=[.int .i64 op,.int .i64 n,.string nm,.slice A k c]/\k<=1):iJ e:=by
 intro w G L ng nl cg cl g l c0 c1 c2 c3 h;obtain⟨op,n,nm,A,k,c,T,ap⟩:=hl _ _ h.rep;injection T with h0 T;injection T with ac T;injection T with J T;injection T with aR T;subst h0 ac J aR;clear T;have bs:=ae S;clear S hl;have q:((k:Int) == 2)=false:=by simp;omega
 have o:(k == 2)=false:=by simp;omega
 clear ap;go_enter func124,ntmps124;go_wp2_with(fail);have f:=ll (w:=w) (.cells #[.slice G ng cg,.slice L nl cl] 237) (.cells #[.int .i64 op,.int .i64 n,.string nm,.slice A k c] 128);have U:=h.on f;clear h;refine(bs.o _ G L ng nl cg cl g l _ _ _ _ U).mono ?_;rintro r ab ⟨rfl,O⟩;go_wp2
 go_ret2
 exact jV.mk' rfl (f.trans (O.mono f.size))
theorem A0(op:Int)(x y:VE)(S:od (.bin op x y)):iJ (.bin op x y):=by
 intro w G L ng nl cg cl g l c0 c1 c2 c3 h;obtain⟨n,nm,b,o,c,bU,Z,ay,F,b1,cj,bp,aJ,T,_⟩:=h.rep;injection T with h0 T;injection T with ac T;injection T with J T;injection T with aR T;subst h0 ac J aR;clear T;have bs:=ae S;clear S;go_enter func124,ntmps124;go_wp2_with(fail);have f:=ll (w:=w) (.cells #[.slice G ng cg,.slice L nl cl] 237) (.cells #[.int .i64 op,.int .i64 n,.string nm,.slice (some ⟨b,o,none⟩) 2 c] 128);have U:=h.on f;clear h;refine(bs.o _ G L ng nl cg cl g l _ _ _ _ U).mono ?_;rintro r ab ⟨rfl,O⟩;go_wp2
 go_ret2
 exact jV.mk' rfl (f.trans (O.mono f.size))
theorem n2:∀e:VE,iJ e
 | .num n=>l7 _ (uW n) (λw cs h=>by obtain⟨nm,A,c,rfl⟩:=h;exact⟨_,_,_,_,_,_,rfl,ad⟩)
 | .gI s=>λw G L ng nl cg cl g l c0 c1 c2 c3 h=>h.ok.elim
 | .loc k=>l7 _ (pC _ k (.inl rfl)) (λw cs h=>by obtain⟨nm,A,c,rfl⟩:=h;exact⟨_,_,_,_,_,_,rfl,ad⟩)
 | .iq k=>l7 _ (pC _ k (.inr rfl)) (λw cs h=>by obtain⟨nm,A,c,rfl⟩:=h;exact⟨_,_,_,_,_,_,rfl,ad⟩)
 | .un op x=>l7 _ (xB op x (n2 x)) (λw cs h=>by obtain⟨n,nm,b,o,c,bU,Z,ay,F,rfl,_⟩:=h;exact⟨_,_,_,_,_,_,rfl,ad⟩)
 | .bin op x y=>A0 op x y (tV op x y (n2 x) (n2 y))
theorem oe(e:VE)(w:World)(G L:IP)(ng nl cg cl:Nat)(g l:List Int)(c0 c1 c2 c3:Value)(h:lP w G L ng nl g l e [c0,c1,c2,c3]) :
  Calls prog 108 #[.agg #[c0,c1,c2,c3],.slice G ng cg,.slice L nl cl] w (jV w (ev g l e)):=by
 have bf:=ae (n2 e);go_enter func108,ntmps108;go_wp2_with(fail);have f:=(Below.refl w.heap.size w).alloc (Hx _) (.cells #[c0,c1,c2,c3] 128);have U:=h.on f;clear h;refine(bf.o _ G L ng nl cg cl g l _ _ _ _ U).mono ?_;rintro r ab ⟨rfl,O⟩;go_wp2
 go_ret2
 exact jV.mk' rfl (f.trans (O.mono f.size))
end
abbrev kJ(P:Nat->Prop)(w:World)(v:Value):Nat->Prop:=λb=>P b/\b<w.heap.size/\v.ownBlock≠some b
structure Gr(P:Nat->Prop)(B:Nat)(e:TypeId)(z:Nat)(w:World)(A:IP)(n c:Nat)(l:List D):Prop where
 len:l.length=n
 ex:∃xs,w.ownsRow B e z (.slice A n c) n xs/\D.aO w (kJ P w (.slice A n c)) l xs
section
variable {P Q:Nat->Prop} {B q:Nat} {e:TypeId} {z:Nat} {w ab aO:World} {A:IP} {n c:Nat} {l:List D}
theorem Gr.nil(P:Nat->Prop)(B:Nat)(e:TypeId)(z:Nat)(w:World):Gr P B e z w none 0 0 []:=⟨rfl,[],⟨by simp,.inl ⟨rfl,rfl⟩⟩,by simp only[D.aO]⟩
theorem Gr.lt(h:Gr P B e z w A n c l){g:Nat}(aM:(Value.slice A n c).ownBlock=some g):B<=g/\g<w.heap.size:=by
 obtain⟨_,xs,ac,_⟩:=h;exact ac.lt g aM
theorem Gr.cap(h:Gr P B e z w A n c l):n<=c/\c<=maxLen:=by
 obtain⟨_,xs,ac,_⟩:=h;obtain⟨_,_,bC,J,aR,_⟩:=bI ac;injection bC with _ _ bC;subst bC;exact⟨J,aR⟩
theorem Gr.al(h:Gr P B e z w A n c l)(hs:w.heap.size<=ab.heap.size)(ap:∀b,b<w.heap.size->(P b\/B<=b)->ab.heap[b]?=w.heap[b]?):Gr P B e z ab A n c l:=by
 obtain⟨hl,xs,ac,J⟩:=h;refine⟨hl,xs,⟨ac.1,?_⟩,D.bL (λb O=>⟨O.1,Hy O.2.1 hs,O.2.2⟩) _ _ (D.bV (λb O=>ap b O.2.1 (.inl O.1)) _ _ J)⟩;rcases ac.2 with aR|⟨g,cap,cur,bC,j,a2,rest⟩
 .exact .inl aR
 .exact .inr ⟨g,cap,cur,bC,j,(ap g (Array.getElem?_eq_some_iff.1 a2).1 (.inr j)).trans a2,rest⟩
theorem Gr.cU(h:Gr P B e z w A n c l)(hs:w.heap.size<=ab.heap.size)(ap:∀b,b<w.heap.size->(P b\/(Value.slice A n c).ownBlock=some b)->ab.heap[b]?=w.heap[b]?):Gr P B e z ab A n c l:=by
 obtain⟨hl,xs,ac,J⟩:=h;refine⟨hl,xs,⟨ac.1,?_⟩,D.bL (λb O=>⟨O.1,Hy O.2.1 hs,O.2.2⟩) _ _ (D.bV (λb O=>ap b O.2.1 (.inl O.1)) _ _ J)⟩;rcases ac.2 with aR|⟨g,cap,cur,bC,j,a2,rest⟩
 .exact .inl aR
 .exact .inr ⟨g,cap,cur,bC,j,(ap g (Array.getElem?_eq_some_iff.1 a2).1 (.inr (by rw[bC];rfl))).trans a2,rest⟩
theorem Gr.base{q:Nat}(h:Gr P B e z w A n c l)(aS:q<=B):Gr P q e z w A n c l:=by
 obtain⟨hl,xs,ac,J⟩:=h;refine⟨hl,xs,⟨ac.1,?_⟩,J⟩;rcases ac.2 with aR|⟨g,cap,cur,bC,j,a2,rest⟩
 .exact .inl aR
 .exact .inr ⟨g,cap,cur,bC,ad,a2,rest⟩
theorem Gr.mono(h:Gr P B e z w A n c l)(U:∀b,b<w.heap.size->P b->Q b):Gr Q B e z w A n c l:=by
 obtain⟨hl,xs,ac,J⟩:=h;exact⟨hl,xs,ac,D.bL (λb O=>⟨U b O.2.1 O.1,O.2.1,O.2.2⟩) _ _ J⟩
theorem Gr.aj(h:Gr P B e z w A n c l)(O:Ext w ab):Gr P B e z ab A n c l:=h.al O.size λb al _=>O.block b al λh=>h
theorem Gr.dh(h:Gr P B e z w A n c l)(O:Fr M w ab)(a6:∀b,M b->b<w.heap.size->¬P b/\b<B):Gr P B e z ab A n c l:=
 h.al O.size λb al hp=>O.block b al λhm=>by
  obtain⟨ac,J⟩:=a6 b hm al;rcases hp with hp|hp
  .exact ac hp
  .omega
theorem Gr.sl(h:Gr P B e z w A n c l)(U:∀b,b<w.heap.size->P b->Q b)(aS:∀b,b<w.heap.size->B<=b->Q b):Sl w Q A n l:=by
 obtain⟨hl,xs,ac,J⟩:=h;exact Sl.sH ac (D.bL (λb O=>U b O.2.1 O.1) _ _ J) hl λg _ ac J=>aS g J ac
end
abbrev c6(S:World)(A:IP)(n c:Nat)(aE:IP)(a0 L:Nat):Prop:=∀b,(Value.slice aE a0 L).ownBlock=some b->(Value.slice A n c).ownBlock=some b\/S.heap.size<=b
section
variable {P:Program} {f:Nat->Prop} {B:Nat} {e t:TypeId} {z:Value} {size bytes:Nat}
theorem Gr.snoc{w ab:World}{A aE:IP}{n c L:Nat}{l:List D}{cA:List Value}{a:Nat}(hl:l.length=n)(ac:w.ownsRow B e a (.slice A n c) n xs)(J:D.aO w (kJ f w (.slice A n c)) l xs)
  (hd:d.rep w (kJ f w (.slice A n c)) cA) {s:Nat} (hs:w.heap.size<=s) (I:ab.ownsRow B e a (.slice aE (n+1) L) (n+1) (xs++cA)) (aM:w.grownBy ab (Value.slice A n c).ownBlock)
  (O:(Value.slice aE (n+1) L).ownBlock=(Value.slice A n c).ownBlock\/(Value.slice aE (n+1) L).ownBlock=some s):Gr f B e a ab aE (n+1) L (l++[d]):=by
 refine⟨by simp[hl],_,I,D.cu ?_ (D.bo.2 ?_)⟩
 .refine D.bL (λb aX=>⟨aX.1,Hy aX.2.1 aM.size,λhc=>?_⟩) _ _ (D.bV (λb aX=>aM.block b aX.2.1 λhe=>aX.2.2 he.symm) _ _ J);exact vF
 .refine D.aH (λb aX=>⟨aX.1,Hy aX.2.1 aM.size,λhc=>?_⟩) _ _ (D.aT (λb aX=>aM.block b aX.2.1 λhe=>aX.2.2 he.symm) _ _ hd);exact vF
namespace zo
theorem y7(h:p:=by
 exact h aE L ab (Gr.snoc hl ac J hd (s:=S.heap.size+1) ad bZ aM (by simpa using b5)) (IK.grown aM λg aM=>.inl aM) (λb O=>by
  rcases b5 with b5|b5
  .rw[b5] at O;exact .inl O
  .rw[b5] at O;injection O with O;right;simp at O;omega) hc
 ):p:=h
end zo
open zo in
theorem pK{Q:Exit->Act->World->Prop}(bj:b2 P t e z size bytes)(s x:Operand)
  (bu:o.op=.call {callee:=.builtin .append,args:=#[s,x],argTypes:=#[t,t]})
  {A:IP} {n c:Nat} {l:List D} (h0:Gr f B e size S A n c l) {d:D} {cs:Array Value} (hd:d.rep S (kJ f S (.slice A n c)) cs.toList)
  (hs:a.eval s=.slice A n c) (hx:a.eval x=.slice (some ⟨S.heap.size,0,none⟩) 1 1) (T:cs.size=size)
  (r:(n+1)*bytes<=140737488355328) (y:n+1<=140737488355328) (C:B<=S.heap.size)
  (h:∀aE L ab,Gr f B e size ab aE (n+1) L (l++[d])->Fr (λb=>(Value.slice A n c).ownBlock=some b) S ab->c6 S A n c aE (n+1) L->n+1<=L->K (a.put o.dst (.slice aE (n+1) L)) ab):o.wp P a (S.alloc (.cells cs e)) K Q:=by
 obtain⟨hl,xs,ac,J⟩:=h0;refine kr _ bj s x bu B _ n xs hs (ac.alloc _) _ 1 1 cs.toList hx (Src.block (heap_alloc_new S _) 1 ad (D.rD _ _ hd)) r y (by simp;omega) (λh=>nomatch h) λH ab bZ cC b5=>?_;exact y6
theorem bN{ops:Array Oper}{Q:Exit->Act->World->Prop}(bj:b2 P t e z size bytes)(i:o.guard=none)(s x:Operand)
  (bu:o.op=.call {callee:=.builtin .append,args:=#[s,x],argTypes:=#[t,t]})
  {A:IP} {n c:Nat} {l:List D} (h0:Gr f B e size S A n c l) {d:D} {cs:Array Value} (hd:d.rep S (kJ f S (.slice A n c)) cs.toList)
  (hs:a.eval s=.slice A n c) (hx:a.eval x=.slice (some ⟨S.heap.size,0,none⟩) 1 1) (T:cs.size=size)
  (r:(n+1)*bytes<=140737488355328) (y:n+1<=140737488355328) (C:B<=S.heap.size)
  (h:∀aE L ab,Gr f B e size ab aE (n+1) L (l++[d])->Fr (λb=>(Value.slice A n c).ownBlock=some b) S ab->c6 S A n c aE (n+1) L->n+1<=L->wpList P ops Q rest (a.put o.dst (.slice aE (n+1) L)) ab):wpList P ops Q (o::rest) a (S.alloc (.cells cs e)):=
 wpList_plain i λ_ hK=>pK bj s x bu h0 hd hs hx T r y C λaE L ab b0 g2 cB cQ=>hK _ _ (h aE L ab b0 g2 cB cQ)
theorem Gr.En{w ab:World}{A aE:IP}{n m c L:Nat}{l k:List D}{cA:List Value}{a:Nat}(hl:l.length=n)(hm:k.length=m)(ac:w.ownsRow B e a (.slice A n c) n xs)(J:D.aO w (kJ f w (.slice A n c)) l xs)
  (hd:D.aO w (kJ f w (.slice A n c)) k cA) {s:Nat} (hs:w.heap.size<=s) (I:ab.ownsRow B e a (.slice aE (n+m) L) (n+m) (xs++cA)) (aM:w.grownBy ab (Value.slice A n c).ownBlock)
  (O:(Value.slice aE (n+m) L).ownBlock=(Value.slice A n c).ownBlock\/(Value.slice aE (n+m) L).ownBlock=some s):Gr f B e a ab aE (n+m) L (l++k):=by
 refine⟨by simp[hl,hm],_,I,D.cu ?_ ?_⟩
 .refine D.bL (λb aX=>⟨aX.1,Hy aX.2.1 aM.size,λhc=>?_⟩) _ _ (D.bV (λb aX=>aM.block b aX.2.1 λhe=>aX.2.2 he.symm) _ _ J);exact vF
 .refine D.bL (λb aX=>⟨aX.1,Hy aX.2.1 aM.size,λhc=>?_⟩) _ _ (D.bV (λb aX=>aM.block b aX.2.1 λhe=>aX.2.2 he.symm) _ _ hd);exact vF
theorem Cq{Q:Exit->Act->World->Prop}(bj:b2 P t e z size bytes)(s x:Operand)
  (bu:o.op=.call {callee:=.builtin .append,args:=#[s,x],argTypes:=#[t,t]})
  {A A2:IP} {n c m c2:Nat} {l k:List D} (h0:Gr f B e size S A n c l) (ap:Sl S (kJ f S (.slice A n c)) A2 m k) (bi:∀d∈k,d.sz=size)
  (hs:a.eval s=.slice A n c) (hx:a.eval x=.slice A2 m c2)
  (r:(n+m)*bytes<=140737488355328) (y:n+m<=140737488355328) (C:B<=S.heap.size)
  (h:∀aE L ab,Gr f B e size ab aE (n+m) L (l++k)->Fr (λb=>(Value.slice A n c).ownBlock=some b) S ab->c6 S A n c aE (n+m) L->n+m<=L->K (a.put o.dst (.slice aE (n+m) L)) ab):o.wp P a S K Q:=by
 obtain⟨hl,xs,ac,J⟩:=h0;obtain⟨cA,aY,ao⟩:=ap.src bi;refine kr _ bj s x bu B _ n xs hs ac _ m c2 cA hx ao r y C (λh=>(by subst h;exact ap.none_)) λH ab bZ cC b5=>?_;obtain⟨aE,L,rfl,hc,_⟩:=bI bZ;exact h aE L ab (Gr.En hl ap.1 ac J aY (s:=S.heap.size) (Hx _) bZ cC b5) (IK.grown cC λg aM=>.inl aM) (λb O=>by
  rcases b5 with b5|b5
  .rw[b5] at O;exact .inl O
  .rw[b5] at O;injection O with O;right;omega) hc
theorem vr{ops:Array Oper}{Q:Exit->Act->World->Prop}(bj:b2 P t e z size bytes)(i:o.guard=none)(s x:Operand)
  (bu:o.op=.call {callee:=.builtin .append,args:=#[s,x],argTypes:=#[t,t]})
  {A A2:IP} {n c m c2:Nat} {l k:List D} (h0:Gr f B e size S A n c l) (ap:Sl S (kJ f S (.slice A n c)) A2 m k) (bi:∀d∈k,d.sz=size)
  (hs:a.eval s=.slice A n c) (hx:a.eval x=.slice A2 m c2)
  (r:(n+m)*bytes<=140737488355328) (y:n+m<=140737488355328) (C:B<=S.heap.size)
  (h:∀aE L ab,Gr f B e size ab aE (n+m) L (l++k)->Fr (λb=>(Value.slice A n c).ownBlock=some b) S ab->c6 S A n c aE (n+m) L->n+m<=L->wpList P ops Q rest (a.put o.dst (.slice aE (n+m) L)) ab):wpList P ops Q (o::rest) a S:=
 wpList_plain i λ_ hK=>Cq bj s x bu h0 ap bi hs hx r y C λaE L ab b0 g2 cB cQ=>hK _ _ (h aE L ab b0 g2 cB cQ)
end
structure kV(B:Nat)(e1:TypeId)(R:Nat)(e2:TypeId)(a5:Nat)(w:World)(A:IP)(n c:Nat)(l:List D)(aE:IP)(a0 L:Nat)(ax:List D):Prop where
 one:Gr (λb=>B<=b/\(Value.slice aE a0 L).ownBlock≠some b) B e1 R w A n c l
 two:Gr (λb=>B<=b/\(Value.slice A n c).ownBlock≠some b) B e2 a5 w aE a0 L ax
 ne:∀b,(Value.slice A n c).ownBlock=some b->(Value.slice aE a0 L).ownBlock≠some b
section
variable {B:Nat} {e1 e2:TypeId} {R a5:Nat} {w ab:World} {A aE A2:IP} {n c a0 L cd c2:Nat} {l ax dc:List D}
theorem kV.nil(B:Nat)(e1:TypeId)(R:Nat)(e2:TypeId)(a5:Nat)(w:World):kV B e1 R e2 a5 w none 0 0 [] none 0 0 []:=⟨Gr.nil _ _ _ _ _,Gr.nil _ _ _ _ _,λb h=>by cases h⟩
theorem kV.swap(h:kV B e1 R e2 a5 w A n c l aE a0 L ax):kV B e2 a5 e1 R w aE a0 L ax A n c l:=⟨h.two,h.one,λb ac J=>h.ne b J ac⟩
theorem kV.dh(h:kV B e1 R e2 a5 w A n c l aE a0 L ax)(O:Fr M w ab)(a6:∀b,M b->b<w.heap.size->b<B):kV B e1 R e2 a5 ab A n c l aE a0 L ax:=by
 refine⟨h.one.cU O.size λb al hp=>O.block b al λhm=>?_,h.two.cU O.size λb al hp=>O.block b al λhm=>?_,h.ne⟩
 .have:=a6 b hm al;rcases hp with hp|hp
  .have:=hp.1;omega
  .have:=(h.one.lt hp).1;omega
 .have:=a6 b hm al;rcases hp with hp|hp
  .have:=hp.1;omega
  .have:=(h.two.lt hp).1;omega
theorem kV.aj(h:kV B e1 R e2 a5 w A n c l aE a0 L ax)(O:Ext w ab):kV B e1 R e2 a5 ab A n c l aE a0 L ax:=h.dh O λ_ h _=>h.elim
theorem kV.grow(h:kV B e1 R e2 a5 w A n c l aE a0 L ax)(aM:Gr (λb=>B<=b/\(Value.slice aE a0 L).ownBlock≠some b) B e1 R ab A2 cd c2 dc)(aA:Fr (λb=>(Value.slice A n c).ownBlock=some b) w ab)(bu:c6 w A n c A2 cd c2) :
  kV B e1 R e2 a5 ab A2 cd c2 dc aE a0 L ax:=by
 have ac:Gr (λb=>(B<=b/\(Value.slice A n c).ownBlock≠some b)/\(Value.slice A2 cd c2).ownBlock≠some b) B e2 a5 w aE a0 L ax:=h.two.mono λb al hp=>⟨hp,λO=>by
  rcases bu b O with ac|ac
  .exact hp.2 ac
  .omega⟩
 have J:=ac.cU aA.size λb al hp=>aA.block b al λhm=>by
  rcases hp with hp|hp
  .exact hp.1.2 hm
  .exact h.ne b hm hp
 refine⟨aM,J.mono λb _ hp=>⟨hp.1.1,hp.2⟩,λb O J=>?_⟩;rcases bu b O with ac|ac
 .exact h.ne b ac J
 .have:=(h.two.lt J).2;omega
end
theorem Gr.lit{P:Nat->Prop}{w:World}{e:TypeId}{z n:Nat}{cs:Array Value}{l:List D}(hl:l.length=n)(T:cs.size=n*z)(hn:n<=1000000)(aY:D.aO w (λb=>P b/\b<w.heap.size) l cs.toList):
  Gr P w.heap.size e z (w.alloc (.cells cs e)) (some ⟨w.heap.size,0,none⟩) n n l:=by
 refine⟨hl,cs.toList,World.ownsRow_lit w _ n (Hx _) (by unfold maxLen;omega) T,?_⟩;refine D.bL (λb O=>⟨O.1,by have:=O.2;simp;omega,λhc=>?_⟩) _ _ (D.bV (λb O=>Below.heap_alloc w _ b O.2) _ _ aY);simp[Value.ownBlock] at hc;have:=O.2;omega
def ql(g:Nat):World->Nat->List Value->World
 | V,_,[]=>V
 | V,i,v::vs=>ql g (V.setCell ⟨g,i,none⟩ v) (i+1) vs
def iw:Array Value->Nat->List Value->Array Value
 | cs,_,[]=>cs
 | cs,i,v::vs=>iw (cs.setIfInBounds i v) (i+1) vs
theorem lL:∀(vs:List Value) (i:Nat) (cs:Array Value),i+vs.length<=cs.size->(iw cs i vs).toList=cs.toList.take i++vs++cs.toList.drop (i+vs.length)
 | [],i,cs,_=>by simp[iw]
 | v::vs,i,cs,h=>by
  simp only[Im] at h;rw[iw,lL vs (i+1) _ (by simp;omega),Array.toList_setIfInBounds];have ak:i<cs.toList.length:=by simp;omega
  rw[List.take_succ_eq_append_getElem (by simpa using ak),List.take_set_of_le (Hx _),List.drop_set_of_lt ad];simp[Nat.add_assoc,Nat.add_comm 1]
theorem kF{g:Nat}{t:TypeId}:∀(vs:List Value) (i:Nat) (V:World) (cs:Array Value),an V g t cs->an (ql g V i vs) g t (iw cs i vs)
 | [],_,_,_,h=>h
 | _::vs,i,_,_,h=>kF vs (i+1) _ _ (h.aI i _)
theorem l8{g:Nat}:∀(vs:List Value) (i:Nat) (V:World),Fr (λb=>b=g) V (ql g V i vs)
 | [],_,_=>IK
 | _::vs,i,_=>Fr.trans ((Fr.refl (λb=>b=g) _).setCell (.inl rfl) _) (l8 vs (i+1) _)
theorem cO{w X V:World}{g:Nat}{t:TypeId}{cs:Array Value}(vs:List Value)(hs:cs.size=vs.length)(aS:an V g t cs)(aw:Ext w V)(aM:w.heap.size<=g)(hX:ql g V 0 vs=X):
  an X g t vs.toArray/\Ext w X/\Fr (λb=>b=g) V X:=by
 subst hX;have aA:=l8 (g:=g) vs 0 V;refine⟨?_,Fr.low (M:=λb=>b=g) (Fr.trans (Fr.mono aw λ_ h=>h.elim) aA) λk ap=>by subst ap;exact aM,aA⟩;have ac:=kF vs 0 V cs aS;have J:iw cs 0 vs=vs.toArray:=by
  apply Array.toList_inj.1
  rw[lL vs 0 cs ad];simp;omega
 rwa [J] at ac
section
variable {P:Program} {f:Nat->Prop} {B:Nat} {e t:TypeId} {z:Value} {size bytes:Nat}
theorem eK{Q:Exit->Act->World->Prop}(bj:b2 P t e z size bytes)(s x:Operand)
  (bu:o.op=.call {callee:=.builtin .append,args:=#[s,x],argTypes:=#[t,t]})
  {A:IP} {n c g:Nat} {l:List D} (h0:Gr f B e size S A n c l) {d:D} {cs:Array Value} {i:TypeId} (aS:an S g i cs) (hd:d.rep S (kJ f S (.slice A n c)) cs.toList)
  (hs:a.eval s=.slice A n c) (hx:a.eval x=.slice (some ⟨g,0,none⟩) 1 1) (T:cs.size=size)
  (r:(n+1)*bytes<=140737488355328) (y:n+1<=140737488355328) (C:B<=S.heap.size)
  (h:∀aE L ab,Gr f B e size ab aE (n+1) L (l++[d])->Fr (λb=>(Value.slice A n c).ownBlock=some b) S ab->c6 S A n c aE (n+1) L->n+1<=L->K (a.put o.dst (.slice aE (n+1) L)) ab):o.wp P a S K Q:=by
 obtain⟨hl,xs,ac,J⟩:=h0;have ao:Src S size (some ⟨g,0,none⟩) 1 cs.toList:=⟨by simpa using T,D.rD _ _ hd,λ_=>⟨g,0,rfl,λj u a1=>by
  rw[It,aS.cell];simpa using a1⟩⟩
 refine kr _ bj s x bu B _ n xs hs ac _ 1 1 cs.toList hx ao r y C (λh=>nomatch h) λH ab bZ cC b5=>?_;obtain⟨aE,L,rfl,hc,_⟩:=bI bZ;refine h aE L ab (Gr.snoc hl ac J hd (s:=S.heap.size) (Hx _) bZ cC b5) (IK.grown cC λg aM=>.inl aM) (λb O=>?_) hc;exact x5
theorem vt{Q:Exit->Act->World->Prop}(bj:b2 P t e z size bytes)(s x:Operand)
  (bu:o.op=.call {callee:=.builtin .append,args:=#[s,x],argTypes:=#[t,t]})
  {A A2:IP} {n c m c2:Nat} {l k:List D} {cA:List Value} (h0:Gr f B e size S A n c l) (aY:D.aO S (kJ f S (.slice A n c)) k cA) (ap:k.length=m) (ao:Src S size A2 m cA) (hn:A2=none->m=0)
  (hs:a.eval s=.slice A n c) (hx:a.eval x=.slice A2 m c2)
  (r:(n+m)*bytes<=140737488355328) (y:n+m<=140737488355328) (C:B<=S.heap.size)
  (h:∀aE L ab,Gr f B e size ab aE (n+m) L (l++k)->Fr (λb=>(Value.slice A n c).ownBlock=some b) S ab->c6 S A n c aE (n+m) L->n+m<=L->K (a.put o.dst (.slice aE (n+m) L)) ab):o.wp P a S K Q:=by
 obtain⟨hl,xs,ac,J⟩:=h0;refine kr _ bj s x bu B _ n xs hs ac _ m c2 cA hx ao r y C hn λH ab bZ cC b5=>?_;obtain⟨aE,L,rfl,hc,_⟩:=bI bZ;refine h aE L ab (Gr.En hl ap ac J aY (s:=S.heap.size) (Hx _) bZ cC b5) (IK.grown cC λg aM=>.inl aM) (λb O=>?_) hc;exact x5
theorem pJ{ops:Array Oper}{Q:Exit->Act->World->Prop}(bj:b2 P t e z size bytes)(i:o.guard=none)(s x:Operand)
  (bu:o.op=.call {callee:=.builtin .append,args:=#[s,x],argTypes:=#[t,t]})
  {A A2:IP} {n c m c2:Nat} {l k:List D} {cA:List Value} (h0:Gr f B e size S A n c l) (aY:D.aO S (kJ f S (.slice A n c)) k cA) (ap:k.length=m) (ao:Src S size A2 m cA) (hn:A2=none->m=0)
  (hs:a.eval s=.slice A n c) (hx:a.eval x=.slice A2 m c2)
  (r:(n+m)*bytes<=140737488355328) (y:n+m<=140737488355328) (C:B<=S.heap.size)
  (h:∀aE L ab,Gr f B e size ab aE (n+m) L (l++k)->Fr (λb=>(Value.slice A n c).ownBlock=some b) S ab->c6 S A n c aE (n+m) L->n+m<=L->wpList P ops Q rest (a.put o.dst (.slice aE (n+m) L)) ab):wpList P ops Q (o::rest) a S:=
 wpList_plain i λ_ hK=>vt bj s x bu h0 aY ap ao hn hs hx r y C λaE L ab b0 g2 cB cQ=>hK _ _ (h aE L ab b0 g2 cB cQ)
theorem iH{Q:Exit->Act->World->Prop}(bj:b2 P t e z size bytes)(s x:Operand)
  (bu:o.op=.call {callee:=.builtin .append,args:=#[s,x],argTypes:=#[t,t]})
  {A2:IP} {g m c2:Nat} {k:List D} {cA:List Value} (h0:Gr f B e size S (some ⟨g,0,none⟩) 0 0 []) (aY:D.aO S (kJ f S (.slice (some ⟨g,0,none⟩) 0 0)) k cA) (ap:k.length=m) (ao:Src S size A2 m cA) (hn:A2=none->m=0)
  (hs:a.eval s=.slice (some ⟨g,0,none⟩) 0 0) (hx:a.eval x=.slice A2 m c2)
  (r:m*bytes<=140737488355328) (y:m<=140737488355328) (C:B<=S.heap.size)
  (h:∀aE L ab,Gr f B e size ab aE m L k->Fr (λb=>b=g) S ab->(∀b,(Value.slice aE m L).ownBlock=some b->b=g\/S.heap.size<=b)->m<=L->K (a.put o.dst (.slice aE m L)) ab):o.wp P a S K Q:=by
 refine vt bj s x bu h0 aY ap ao hn hs hx (by rw[It];exact r) ad C λaE L ab b0 g2 cB cQ=>?_;simp only[It,IC] at b0 cB cQ ⊢;exact h aE L ab b0 (g2.mono λb O=>by simp[Value.ownBlock] at O;exact O.symm) (λb O=>(cB b O).imp (λh=>by simp[Value.ownBlock] at h;exact h.symm) id) cQ
end
section
variable {P:Program} {ops:Array Oper} {Q:Exit->Act->World->Prop} {R:World->World->Prop} {tails:List Nat}
theorem h8{δ:Type}{rest:PT}{aa:α->β->γ->δ->Act}{C:α->β->γ->δ->World->Prop}(h:(∀x y z u V,C x y z u V->di P ops Q R tails rest (aa x y z u) V)->G)(key:∀x y z u V,C x y z u V->di P ops Q R tails rest (aa x y z u) V):G:=h key
theorem jH{rest:PT}{aa:α->β->γ->Act}{C:α->β->γ->World->Prop}(h:(∀x y z V,C x y z V->di P ops Q R tails rest (aa x y z) V)->G)(key:∀x y z V,C x y z V->di P ops Q R tails rest (aa x y z) V):G:=h key
theorem lM{rest:PT}{aa:α->β->Act}{C:α->β->World->Prop}(h:(∀x y V,C x y V->di P ops Q R tails rest (aa x y) V)->G)(key:∀x y V,C x y V->di P ops Q R tails rest (aa x y) V):G:=h key
end
theorem ER{w a b:World}(ac:Ext w a)(J:Ext w b)(hs:a.heap.size=w.heap.size+1)(bz:a.heap.size<=b.heap.size):Fr (λk=>k=w.heap.size) a b:=
 ⟨J.os.trans ac.os.symm,J.tape.trans ac.tape.symm,J.output.trans ac.output.symm,bz,λk ap hn=>(J.block k ad λh=>h).trans (ac.block k ad λh=>h).symm⟩
theorem uk{P:Nat->Prop}{w ab:World}{v:Value}(h:d.rep w (kJ P w v) cs)(he:Ext w ab):d.rep ab (kJ P ab v) cs:=
 D.aH (λb O=>⟨O.1,Hy O.2.1 he.size,O.2.2⟩) _ _ (D.aT (λb O=>he.block b O.2.1 λh=>h) _ _ h)
end Go.Proofs.YtajlmkkidmjgoaaGreatDoor

/- Part 7 of the proof. No condition of its own. -/
import Derived.Test.YtnigabjngpnbiabGreatF06
namespace Go.Proofs.YtnigabjngpnbiabGreat
open Go.RowKit Go.Proofs.Tryz
set_option maxRecDepth 1000000
set_option maxHeartbeats 25600000
set_option linter.unusedVariables false
variable{l:List Int}{cs:List Value}{c n s:Nat}{A:NH}{p:Prop}{x:VE}{a ab b w:World}
section
attribute [local go_sem ↓] gI gJ
theorem kt(b:Bool)(w:World):Calls prog 138 #[b] w λe ab=>e=.returned (.int .i64 (fB b))/\w=ab:=by
 cases b<;>(go_enter func138,ntmps138;go_wp2;go_ret;exact⟨rfl,rfl⟩)
theorem iv(b:Bool)(w:World):Calls prog 117 #[b] w λe ab=>e=.returned (.int .i64 (fB b))/\w=ab:=by
 cases b<;>(go_enter func117,ntmps117;go_wp2;go_ret;exact⟨rfl,rfl⟩)
theorem oA(A:NH)(n c:Nat)(l:List Int)(k:Int)(w:World)(h:cp (EF bQ) 1 w w.heap.size A n l)(h0:0<=k)(ac:k<n) :
  Calls prog 137 #[.slice A n c,k] w λe ab=>e=.returned (.int .i64 (l.getD k.toNat 0))/\w=ab:=by
 obtain⟨j,rfl⟩:=M6 h0;obtain⟨b,o,x,rfl,O,hx,hc⟩:=h.int (show j<n by omega);have bi:j<n:=ad;have aP:=ae (show l.getD (j:Int).toNat 0=x by rw[Np,List.getD_eq_getElem?_getD,hx];rfl);clear hx h;go_enter func137,ntmps137;go_wp2;go_ret;exact⟨ret_int (by rw[aP.o]),rfl⟩
theorem nh(a b:Int)(O:b≠0)(w:World) :
  Calls prog 118 #[a,b] w λe ab=>e=.returned (.int .i64 (wrap64 (a.tdiv b)))/\w=ab:=by
 by_cases ac:b = -1
 .subst ac;go_enter func118,ntmps118;go_wp2;go_ret;exact⟨ret_int (by rw[Int.tdiv_neg,Int.tdiv_one]),rfl⟩
 .have cd:(b == -1)=false:=by simpa using ac
  have c8:(b == 0)=false:=by simpa using O
  go_enter func118,ntmps118;go_wp2;go_ret;exact⟨rfl,rfl⟩
def gx(w:World)(r:Int×Int)(e:Ending)(ab:World):Prop:=e=.returned (.tuple #[.int .i64 r.1,.int .i64 r.2])/\Below w.heap.size w ab
theorem gx.mk'{r:Int×Int}{a b:Int}(ba:r=(a,b))(O:Below w w ab):gx w r (.returned (.tuple #[a,b])) ab:=by
 subst ba;exact⟨rfl,O⟩
theorem p9(op a b:Int)(h:5<=op/\op<=15)(w:World) :
  Calls prog 139 #[op,a,b] w (gx w (arith op a b)):=by
 by_cases hdiv:(op=6\/op=7)/\b=0
 .obtain⟨cp,rfl⟩:=hdiv;rcases cp with rfl|rfl
  all_goals
   go_enter func139,ntmps139;go_wp2
   go_ret2
   exact gx.mk' rfl (Below.refl _ _)
 .obtain rfl|rfl|rfl|rfl|rfl|rfl|rfl|rfl|rfl|rfl|rfl:op=5\/op=6\/op=7\/op=8\/op=9\/op=10\/op=11\/op=12\/op=13\/op=14\/op=15:=ad
  case inr.inl=>
   have O:b≠0:=λag=>hdiv ⟨.inl rfl,ag⟩;have c8:(b == 0)=false:=by simpa using O
   have HA:=ae (show arith 6 a b=(wrap64 (a.tdiv b),0) by unfold arith;simp[O]);clear hdiv h;go_enter func139,ntmps139;go_wp2
   go_ret2
   exact gx.mk' HA.o (Below.refl _ _)
  case inr.inr.inl=>
   have O:b≠0:=λag=>hdiv ⟨.inr rfl,ag⟩;have c8:(b == 0)=false:=by simpa using O
   have HA:=ae (show arith 7 a b=(a.tmod b,0) by unfold arith;simp[O]);clear hdiv h;go_enter func139,ntmps139;go_wp2
   go_ret2
   exact gx.mk' HA.o (Below.refl _ _)
  all_goals
   clear hdiv h;go_enter func139,ntmps139;go_wp2_with((go_at_call 138;refine(kt _ _).mono ?_;rintro e ab ⟨rfl,rfl⟩))
   go_ret2
   exact gx.mk' rfl (Below.refl _ _)
end
section
attribute [local go_sem ↓] gI gJ
structure lR(w:World)(G L:NH)(ng nl:Nat)(g l:List Int)(e:VE)(cs:List Value):Prop where
 gs:cp (EF bQ) 1 w w.heap.size G ng g
 ls:cp (EF bQ) 1 w w.heap.size L nl l
 ok:e.ok ng nl
 rep:e.at_ w cs
theorem lR.on{G L:NH}{ng nl:Nat}{g:List Int}{e:VE}(h:lR w G L ng nl g l e cs)(O:Below w w ab):lR ab G L ng nl g l e cs:=
 ⟨h.gs.cD O O.size,h.ls.cD O O.size,h.ok,VE.ED h.rep O⟩
def jI(e:VE):Prop:=∀(w:World) (G L:NH) (ng nl cg cl:Nat) (g l:List Int) (c0 c1 c2 c3:Value),lR w G L ng nl g l e [c0,c1,c2,c3]->
 Calls prog 96 #[.agg #[.slice G ng cg,.slice L nl cl],.agg #[c0,c1,c2,c3]] w (gx w (ev g l e))
def j9(e:VE):Prop:=∀(w:World) (G L:NH) (ng nl cg cl:Nat) (g l:List Int) (c0 c1 c2 c3:Value),lR w G L ng nl g l e [c0,c1,c2,c3]->
 Calls prog 125 #[.agg #[.slice G ng cg,.slice L nl cl],.agg #[c0,c1,c2,c3]] w (gx w (ev g l e))
def pP(e:VE):Prop:=∀(w:World) (G L:NH) (ng nl cg cl:Nat) (g l:List Int) (c0 c1 c2 c3:Value),lR w G L ng nl g l e [c0,c1,c2,c3]->
 Calls prog 126 #[.agg #[.slice G ng cg,.slice L nl cl],.agg #[c0,c1,c2,c3]] w (gx w (ev g l e))
theorem me(a b:Obj):Below w w ((w.alloc a).alloc b):=((Below.refl _ _).alloc (MU _) _).alloc (by simp) _
theorem xQ(n:Int):j9 (.num n):=by
 intro w G L ng nl cg cl g l c0 c1 c2 c3 h;obtain⟨nm,A,c,T⟩:=h.rep;injection T with h0 T;injection T with ac T;injection T with az T;injection T with aV T;subst h0 ac az aV;clear h T;go_enter func125,ntmps125;go_wp2
 go_ret2
 exact gx.mk' rfl (me _ _)
namespace CP
theorem Cx(h:p:=by
 have S:=ae bO;clear aB e0 e1 e2 e3 bO;have ak:∀V:World,Below W W V->V.cell? ⟨w,0,none⟩=some (.slice G ng cg)/\V.cell? ⟨w,1,none⟩=some (.slice L nl cl)/\V.cell? ⟨w.heap.size+1,0,none⟩=some (.int .i64 op)/\V.cell? ⟨w.heap.size+1,3,none⟩=some (.slice (some ⟨b,o,none⟩) 1 c)/\
   V.cell? ⟨b,o,none⟩=some b0/\V.cell? ⟨b,o+1,none⟩=some Z/\V.cell? ⟨b,o+2,none⟩=some a9/\V.cell? ⟨b,o+3,none⟩=some H:=λV hV=>by
  have U:=S.o;have ao:b<W:=by have:=O;omega
  exact⟨(hV.cell (p:=⟨w,0,none⟩) (by simp only[];omega)).trans a0,(hV.cell (p:=⟨w,1,none⟩) (by simp only[];omega)).trans i,(hV.cell (p:=⟨w.heap.size+1,0,none⟩) (by simp only[];omega)).trans bs,(hV.cell (p:=⟨w.heap.size+1,3,none⟩) (by simp only[];omega)).trans ar,
   (hV.cell (p:=⟨b,o,none⟩) ao).trans d0,(hV.cell (p:=⟨b,o+1,none⟩) ao).trans d1,(hV.cell (p:=⟨b,o+2,none⟩) ao).trans d2,(hV.cell (p:=⟨b,o+3,none⟩) ao).trans d3⟩
 have cT:=ae ak;clear ak a0 i bs ar d0 d1 d2 d3;go_region_held3 (λV=>V.cell? ⟨w,0,none⟩=some (.slice G ng cg)/\V.cell? ⟨w,1,none⟩=some (.slice L nl cl)/\V.cell? ⟨w.heap.size+1,0,none⟩=some (.int .i64 op)/\V.cell? ⟨w.heap.size+1,3,none⟩=some (.slice (some ⟨b,o,none⟩) 1 c)/\
   V.cell? ⟨b,o,none⟩=some b0/\V.cell? ⟨b,o+1,none⟩=some Z/\V.cell? ⟨b,o+2,none⟩=some a9/\V.cell? ⟨b,o+3,none⟩=some H)
  (first|exact cT.o _ (Below.refl _ _)|exact cT.o _ (Below.refl _ _).drew|exact cT.o _ bn)
  (first|(go_at_call 96;refine(cC.o _ G L ng nl cg cl g l b0 Z a9 H ?_).mono ?_;(exact be.on (Below.refl _ _).drew);rintro r ab ⟨rfl,d⟩;have bn:Below W W ab:=(Below.refl W W).drew.trans d;clear d))
 have J:=(f.trans (bn.mono f.size))
 have bk:=ae (show ev g l (.un op x)=if (ev g l x).2≠0 then (0,(ev g l x).2) else if op=3 then (wrap64 (-(ev g l x).1),0) else (fB ((ev g l x).1 == 0),0) from rfl);generalize ev g l x=r1 at *;obtain⟨v1,f1⟩:=r1;clear cT cC be;by_cases bf:f1=0
 case neg=>
  have q1:(f1 != 0)=true:=by simpa using bf
  have a8:=ae (show ev g l (.un op x)=(0,f1) by rw[bk.o];simp[bf]);clear bf;go_wp2
  go_ret2
  exact gx.mk' a8.o J
 have q1:(f1 != 0)=false:=by simpa using bf
 rcases a2.o with aV|aU
 .have a8:=ae (show ev g l (.un op x)=(wrap64 (-v1),0) by rw[bk.o];simp[bf,aV]);subst aV;clear bf;go_wp2
  go_ret2
  exact gx.mk' a8.o J
 .have a8:=ae (show ev g l (.un op x)=(fB (v1 == 0),0) by rw[bk.o];simp[bf,aU]);subst aU;clear bf;go_wp2_with((go_at_call 138;refine(kt _ _).mono ?_;rintro e ab ⟨rfl,rfl⟩))
  go_ret2
  exact gx.mk' a8.o J
 ):p:=h
theorem te(h:p:=by
 have cp:=h.ok.1;have aB:lR w G L ng nl g l x [b0,Z,a9,H]:=⟨h.gs,h.ls,h.ok.2,hx⟩
 obtain⟨cC,a2⟩:=aJ u cp;clear h hx u;have cd:(op == 1)=false:=by simp;omega
 have g2:(op == 18)=false:=by simp;omega
 have cA:(op == 19)=false:=by simp;omega
 clear cp;go_enter func125,ntmps125;go_wp2;have f:=me (w:=w) (.cells #[.slice G ng cg,.slice L nl cl] 191) (.cells #[op,n,nm,.slice (some ⟨b,o,none⟩) 1 c] 37);have a0:((w.alloc (.cells #[.slice G ng cg,.slice L nl cl] 191)).alloc (.cells #[op,n,nm,.slice (some ⟨b,o,none⟩) 1 c] 37)).cell? ⟨w,0,none⟩=some (.slice G ng cg):=by simp[go_sem]
 have i:((w.alloc (.cells #[.slice G ng cg,.slice L nl cl] 191)).alloc (.cells #[op,n,nm,.slice (some ⟨b,o,none⟩) 1 c] 37)).cell? ⟨w,1,none⟩=some (.slice L nl cl):=by simp[go_sem]
 have bs:((w.alloc (.cells #[.slice G ng cg,.slice L nl cl] 191)).alloc (.cells #[op,n,nm,.slice (some ⟨b,o,none⟩) 1 c] 37)).cell? ⟨w.heap.size+1,0,none⟩=some (.int .i64 op):=by simp[go_sem]
 have ar:((w.alloc (.cells #[.slice G ng cg,.slice L nl cl] 191)).alloc (.cells #[op,n,nm,.slice (some ⟨b,o,none⟩) 1 c] 37)).cell? ⟨w.heap.size+1,3,none⟩=some (.slice (some ⟨b,o,none⟩) 1 c):=by simp[go_sem]
 have bO:((w.alloc (.cells #[.slice G ng cg,.slice L nl cl] 191)).alloc (.cells #[op,n,nm,.slice (some ⟨b,o,none⟩) 1 c] 37)).heap.size=w.heap.size+2:=by simp
 generalize (w.alloc (.cells #[.slice G ng cg,.slice L nl cl] 191)).alloc (.cells #[op,n,nm,.slice (some ⟨b,o,none⟩) 1 c] 37)=W at *;have be:=aB.on f;exact Cw
 ):p:=h
end CP
open CP in
theorem Ad(op:Int)(x:VE)(u:jI x):j9 (.un op x):=by
 intro w G L ng nl cg cl g l c0 c1 c2 c3 h;obtain⟨n,nm,b,o,c,b0,Z,a9,H,T,O,hx,e0,e1,e2,e3⟩:=h.rep;exact td
theorem rj(e:VE)(k:Int)(he:e=.loc k\/e=.ij k):j9 e:=by
 intro w G L ng nl cg cl g l c0 c1 c2 c3 h;have a:=me (w:=w) (.cells #[.slice G ng cg,.slice L nl cl] 191) (.cells #[c0,c1,c2,c3] 37);have bB:=h.gs.cD a a.size;have y:=h.ls.cD a a.size;clear a;have ca:=h.ok;rcases he with rfl|rfl
 all_goals
  obtain⟨nm,A,c,T⟩:=h.rep;injection T with h0 T;injection T with ac T;injection T with az T;injection T with aV T;subst h0 ac az aV;clear h T;obtain⟨bE,ce⟩:=ca;go_enter func125,ntmps125;go_wp2_with(fail)
  first
  | refine(oA L nl cl l k _ y bE ce).mono ?_
  | refine(oA G ng cg g k _ bB bE ce).mono ?_
  rintro e ab ⟨rfl,rfl⟩;go_wp2
  go_ret2
  exact gx.mk' rfl (me _ _)
namespace CQ
theorem Cj(h:p:=by
 obtain⟨HA,a2⟩:=aJ bg bD;clear bk;have split:(op == 16)=true/\(v1 == 0)=false/\(op == 17)=false\/(op == 16)=false/\(op == 17)=true/\(v1 != 0)=false\/(op == 16)=false/\(op == 17)=false:=by
  exact Ig
 clear bg bD;have bH:=ae split;clear split;rcases bH.o with⟨cj,cB,dx⟩|⟨cj,cB,dx⟩|⟨cj,cB⟩
 all_goals
  go_wp2;go_region_held3 (λV=>V.cell? ⟨w,0,none⟩=some (.slice G ng cg)/\V.cell? ⟨w,1,none⟩=some (.slice L nl cl)/\V.cell? ⟨w.heap.size+1,0,none⟩=some (.int .i64 op)/\V.cell? ⟨w.heap.size+1,3,none⟩=some (.slice (some ⟨b,o,none⟩) 2 c)/\V.cell? ⟨b,o,none⟩=some b0/\V.cell? ⟨b,o+1,none⟩=some Z/\V.cell? ⟨b,o+2,none⟩=some a9/\V.cell? ⟨b,o+3,none⟩=some H/\V.cell? ⟨b,o+4,none⟩=some ci/\V.cell? ⟨b,o+5,none⟩=some cr/\V.cell? ⟨b,o+6,none⟩=some cf/\V.cell? ⟨b,o+7,none⟩=some bv)
   (first|exact cT.o _ (Below.refl _ _)|exact cT.o _ (Below.refl _ _).drew|exact cT.o _ cd|exact cT.o _ bn|exact cT.o _ bn.drew)
   (first|(go_at_call 96;refine(E.o _ G L ng nl cg cl g l ci cr cf bv ?_).mono ?_;(exact(P.on bn).on (Below.refl _ _).drew);rintro r b6 ⟨rfl,d⟩;have cd:Below W W b6:=bn.drew.trans (d.mono bn.size);clear d))
  have J:=(f.trans (cd.mono f.size))
  generalize ev g l y=gw at *;obtain⟨v2,f2⟩:=gw;by_cases aA:f2=0
  case neg=>
   have de:(f2 != 0)=true:=by simpa using aA
   have bQ:=ae (show ev g l (.bin op x y)=(0,f2) by rw[a4.o];simp[aA]);clear aA;go_wp2
   go_ret2
   exact gx.mk' bQ.o J
  have de:(f2 != 0)=false:=by simpa using aA
  have bQ:=ae (show ev g l (.bin op x y)=if op=16\/op=17 then (fB (v2 != 0),0) else arith op v1 v2 by rw[a4.o];simp[aA]);clear aA a4
  first
  | (have F:=ae (show ev g l (.bin op x y)=(fB (v2 != 0),0) by rw[bQ.o,if_pos (by first|exact .inl (by simpa using cj)|exact .inr (by simpa using cB))]);go_wp2_with((go_at_call 138;refine(kt _ _).mono ?_;rintro e ab ⟨rfl,rfl⟩));go_ret2;exact gx.mk' F.o J)
  | (have bl:op≠16/\op≠17:=⟨by simpa using cj,by simpa using cB⟩;have F:=ae (show ev g l (.bin op x y)=arith op v1 v2 by rw[bQ.o,if_neg ad]);go_wp2_with(fail);refine(p9 op v1 v2 ad _).mono ?_;rintro e cO ⟨rfl,bE⟩;go_wp2;go_ret2;exact gx.mk' (by rw[F.o]) (J.trans (bE.mono J.size)))
 ):p:=h
theorem BO(h:p:=by
 clear cC be;by_cases bf:f1=0
 case neg=>
  have q1:(f1 != 0)=true:=by simpa using bf
  have a8:=ae (show ev g l (.bin op x y)=(0,f1) by rw[bk.o];simp[bf]);clear bf;go_wp2
  go_ret2
  exact gx.mk' a8.o J
 have q1:(f1 != 0)=false:=by simpa using bf
 have bC:=ae bf;clear bf;by_cases bg:op=16/\v1=0
 .obtain⟨rfl,rfl⟩:=bg;have a8:=ae (show ev g l (.bin 16 x y)=(0,0) by rw[bk.o];simp[bC.o]);go_wp2
  go_ret2
  exact gx.mk' a8.o J
 by_cases bD:op=17/\v1≠0
 .obtain⟨rfl,bK⟩:=bD;have cL:(v1 != 0)=true:=by simpa using bK
  have a8:=ae (show ev g l (.bin 17 x y)=(1,0) by rw[bk.o];simp[bC.o,bK]);clear bK;go_wp2
  go_ret2
  exact gx.mk' a8.o J
 exact Ci
 ):p:=h
theorem Cx(h:p:=by
 have d4:=(f.cell (p:=⟨b,o+4,none⟩) O).trans b3;have d5:=(f.cell (p:=⟨b,o+5,none⟩) O).trans co;have d6:=(f.cell (p:=⟨b,o+6,none⟩) O).trans bx;have d7:=(f.cell (p:=⟨b,o+7,none⟩) O).trans e7;have S:=ae bO;clear aB j e0 e1 e2 e3 b3 co bx e7 bO;have ak:∀V:World,Below W W V->V.cell? ⟨w,0,none⟩=some (.slice G ng cg)/\V.cell? ⟨w,1,none⟩=some (.slice L nl cl)/\V.cell? ⟨w.heap.size+1,0,none⟩=some (.int .i64 op)/\V.cell? ⟨w.heap.size+1,3,none⟩=some (.slice (some ⟨b,o,none⟩) 2 c)/\V.cell? ⟨b,o,none⟩=some b0/\V.cell? ⟨b,o+1,none⟩=some Z/\V.cell? ⟨b,o+2,none⟩=some a9/\V.cell? ⟨b,o+3,none⟩=some H/\V.cell? ⟨b,o+4,none⟩=some ci/\V.cell? ⟨b,o+5,none⟩=some cr/\V.cell? ⟨b,o+6,none⟩=some cf/\V.cell? ⟨b,o+7,none⟩=some bv:=λV hV=>by
  have U:=S.o;have ao:b<W:=by have:=O;omega
  exact⟨(hV.cell (p:=⟨w,0,none⟩) (by simp only[];omega)).trans a0,(hV.cell (p:=⟨w,1,none⟩) (by simp only[];omega)).trans i,(hV.cell (p:=⟨w.heap.size+1,0,none⟩) (by simp only[];omega)).trans bs,(hV.cell (p:=⟨w.heap.size+1,3,none⟩) (by simp only[];omega)).trans ar,(hV.cell (p:=⟨b,o,none⟩) ao).trans d0,(hV.cell (p:=⟨b,o+1,none⟩) ao).trans d1,(hV.cell (p:=⟨b,o+2,none⟩) ao).trans d2,(hV.cell (p:=⟨b,o+3,none⟩) ao).trans d3,(hV.cell (p:=⟨b,o+4,none⟩) ao).trans d4,(hV.cell (p:=⟨b,o+5,none⟩) ao).trans d5,(hV.cell (p:=⟨b,o+6,none⟩) ao).trans d6,(hV.cell (p:=⟨b,o+7,none⟩) ao).trans d7⟩
 have cT:=ae ak;clear ak a0 i bs ar d0 d1 d2 d3 d4 d5 d6 d7;go_region_held3 (λV=>V.cell? ⟨w,0,none⟩=some (.slice G ng cg)/\V.cell? ⟨w,1,none⟩=some (.slice L nl cl)/\V.cell? ⟨w.heap.size+1,0,none⟩=some (.int .i64 op)/\V.cell? ⟨w.heap.size+1,3,none⟩=some (.slice (some ⟨b,o,none⟩) 2 c)/\V.cell? ⟨b,o,none⟩=some b0/\V.cell? ⟨b,o+1,none⟩=some Z/\V.cell? ⟨b,o+2,none⟩=some a9/\V.cell? ⟨b,o+3,none⟩=some H/\V.cell? ⟨b,o+4,none⟩=some ci/\V.cell? ⟨b,o+5,none⟩=some cr/\V.cell? ⟨b,o+6,none⟩=some cf/\V.cell? ⟨b,o+7,none⟩=some bv)
  (first|exact cT.o _ (Below.refl _ _)|exact cT.o _ (Below.refl _ _).drew|exact cT.o _ bn|exact cT.o _ bn|exact cT.o _ bn.drew)
  (first|(go_at_call 96;refine(cC.o _ G L ng nl cg cl g l b0 Z a9 H ?_).mono ?_;(exact be.on (Below.refl _ _).drew);rintro r aW ⟨rfl,d⟩;have bn:Below W W aW:=(Below.refl W W).drew.trans (d.mono (MU _));clear d))
 have J:=(f.trans (bn.mono f.size))
 exact BN
 ):p:=h
theorem BG(h:p:=by
 obtain⟨cC,E⟩:=aJ m k;clear h hx bb m k;go_enter func126,ntmps126;go_wp2;have f:=me (w:=w) (.cells #[.slice G ng cg,.slice L nl cl] 191) (.cells #[op,n,nm,.slice (some ⟨b,o,none⟩) 2 c] 37);have a0:((w.alloc (.cells #[.slice G ng cg,.slice L nl cl] 191)).alloc (.cells #[op,n,nm,.slice (some ⟨b,o,none⟩) 2 c] 37)).cell? ⟨w,0,none⟩=some (.slice G ng cg):=by simp[go_sem]
 have i:((w.alloc (.cells #[.slice G ng cg,.slice L nl cl] 191)).alloc (.cells #[op,n,nm,.slice (some ⟨b,o,none⟩) 2 c] 37)).cell? ⟨w,1,none⟩=some (.slice L nl cl):=by simp[go_sem]
 have bs:((w.alloc (.cells #[.slice G ng cg,.slice L nl cl] 191)).alloc (.cells #[op,n,nm,.slice (some ⟨b,o,none⟩) 2 c] 37)).cell? ⟨w.heap.size+1,0,none⟩=some (.int .i64 op):=by simp[go_sem]
 have ar:((w.alloc (.cells #[.slice G ng cg,.slice L nl cl] 191)).alloc (.cells #[op,n,nm,.slice (some ⟨b,o,none⟩) 2 c] 37)).cell? ⟨w.heap.size+1,3,none⟩=some (.slice (some ⟨b,o,none⟩) 2 c):=by simp[go_sem]
 have bO:((w.alloc (.cells #[.slice G ng cg,.slice L nl cl] 191)).alloc (.cells #[op,n,nm,.slice (some ⟨b,o,none⟩) 2 c] 37)).heap.size=w.heap.size+2:=by simp
 generalize (w.alloc (.cells #[.slice G ng cg,.slice L nl cl] 191)).alloc (.cells #[op,n,nm,.slice (some ⟨b,o,none⟩) 2 c] 37)=W at *;have be:=aB.on f;have P:=j.on f;exact Cw
 ):p:=h
end CQ
open CQ in
theorem wZ(op:Int)(x y:VE)(m:jI x)(k:jI y):pP (.bin op x y):=by
 intro w G L ng nl cg cl g l c0 c1 c2 c3 h;exact BF
theorem m0(e:VE)(S:j9 e)(hl:∀w cs,e.at_ w cs->∃op n nm A k c,cs=[.int .i64 op,.int .i64 n,.string nm,.slice A k c]/\k<=1):jI e:=by
 intro w G L ng nl cg cl g l c0 c1 c2 c3 h;obtain⟨op,n,nm,A,k,c,T,aj⟩:=hl _ _ h.rep;injection T with h0 T;injection T with ac T;injection T with az T;injection T with aV T;subst h0 ac az aV;clear T;have bH:=ae S;clear S hl;have q:((k:Int) == 2)=false:=by simp;omega
 have z:(k == 2)=false:=by simp;omega
 clear aj;go_enter func96,ntmps96;go_wp2_with(fail);have f:=me (w:=w) (.cells #[.slice G ng cg,.slice L nl cl] 191) (.cells #[op,n,nm,.slice A k c] 37);have aB:=h.on f;clear h;refine(bH.o _ G L ng nl cg cl g l _ _ _ _ aB).mono ?_;rintro r ab ⟨rfl,O⟩;go_wp2
 go_ret2
 exact gx.mk' rfl (f.trans (O.mono f.size))
theorem EX(op:Int)(x y:VE)(S:pP (.bin op x y)):jI (.bin op x y):=by
 intro w G L ng nl cg cl g l c0 c1 c2 c3 h;obtain⟨n,nm,b,o,c,b0,Z,a9,H,ci,cr,cf,bv,T,_⟩:=h.rep;injection T with h0 T;injection T with ac T;injection T with az T;injection T with aV T;subst h0 ac az aV;clear T;have bH:=ae S;clear S;go_enter func96,ntmps96;go_wp2_with(fail);have f:=me (w:=w) (.cells #[.slice G ng cg,.slice L nl cl] 191) (.cells #[op,n,nm,.slice (some ⟨b,o,none⟩) 2 c] 37);have aB:=h.on f;clear h;refine(bH.o _ G L ng nl cg cl g l _ _ _ _ aB).mono ?_;rintro r ab ⟨rfl,O⟩;go_wp2
 go_ret2
 exact gx.mk' rfl (f.trans (O.mono f.size))
theorem pz:∀e:VE,jI e
 | .num n=>m0 _ (xQ n) (λw cs h=>by obtain⟨nm,A,c,rfl⟩:=h;exact⟨_,_,_,_,_,_,rfl,ad⟩)
 | .gU s=>λw G L ng nl cg cl g l c0 c1 c2 c3 h=>h.ok.elim
 | .loc k=>m0 _ (rj _ k (.inl rfl)) (λw cs h=>by obtain⟨nm,A,c,rfl⟩:=h;exact⟨_,_,_,_,_,_,rfl,ad⟩)
 | .ij k=>m0 _ (rj _ k (.inr rfl)) (λw cs h=>by obtain⟨nm,A,c,rfl⟩:=h;exact⟨_,_,_,_,_,_,rfl,ad⟩)
 | .un op x=>m0 _ (Ad op x (pz x)) (λw cs h=>by obtain⟨n,nm,b,o,c,b0,Z,a9,H,rfl,_⟩:=h;exact⟨_,_,_,_,_,_,rfl,ad⟩)
 | .bin op x y=>EX op x y (wZ op x y (pz x) (pz y))
theorem pQ(e:VE)(w:World)(G L:NH)(ng nl cg cl:Nat)(g l:List Int)(c0 c1 c2 c3:Value)(h:lR w G L ng nl g l e [c0,c1,c2,c3]) :
  Calls prog 65 #[.agg #[c0,c1,c2,c3],.slice G ng cg,.slice L nl cl] w (gx w (ev g l e)):=by
 have bk:=ae (pz e);go_enter func65,ntmps65;go_wp2_with(fail);have f:=(Below.refl w w).alloc (MU _) (.cells #[c0,c1,c2,c3] 37);have aB:=h.on f;clear h;refine(bk.o _ G L ng nl cg cl g l _ _ _ _ aB).mono ?_;rintro r ab ⟨rfl,O⟩;go_wp2
 go_ret2
 exact gx.mk' rfl (f.trans (O.mono f.size))
end
def Kb(w:World)(x:VE)(e:Ending)(ab:World):Prop:=∃c0 c1 c2 c3,e=.returned (.agg #[c0,c1,c2,c3])/\x.rep ab (λb=>w.heap.size<=b/\b<ab.heap.size) [c0,c1,c2,c3]/\Below w.heap.size w ab
theorem Kb.mk'{y:VE}{c0 c1 c2 c3:Value}(hx:x=y)(h:y.rep ab (λb=>w.heap.size<=b/\b<ab.heap.size) [c0,c1,c2,c3])(O:Below w w ab):Kb w x (.returned (.agg #[c0,c1,c2,c3])) ab:=by
 subst hx;exact⟨_,_,_,_,rfl,h,O⟩
def Jx(n:Int):VE:=if 0<=n then .num n else .bin 9 (.un 3 (.num (wrap64 (-(wrap64 (n+1)))))) (.num 1)
theorem lR.new{B:Nat}(h:x.rep ab (λb=>B<=b/\b<ab.heap.size) cs)(ca:x.ok 0 0):lR ab none none 0 0 [] [] x cs:=
 ⟨cp.bY _,cp.bY _,ca,VE.aM (λ_ h=>h.2) _ _ h⟩
structure gy(s:Nat)(w ab:World):Prop where
 os:ab.os=w.os
 tape:ab.tape=w.tape
 output:ab.output=w.output
 size:w.heap.size<=ab.heap.size
 block:∀k,k<w.heap.size->k≠s->ab.heap[k]?=w.heap[k]?
theorem gy.refl(s:Nat)(w:World):gy s w w:=⟨rfl,rfl,rfl,MU _,λ_ _ _=>rfl⟩
theorem gy.trans{s:Nat}{a b c:World}(h:gy s a b)(k:gy s b c):gy s a c:=
 ⟨k.os.trans h.os,k.tape.trans h.tape,k.output.trans h.output,Nl h.size k.size,λi aN hn=>(k.block i (M0 aN h.size) hn).trans (h.block i aN hn)⟩
theorem gy.of(h:Below a a b):gy s a b:=⟨h.os,h.tape,h.output,h.size,λk aj _=>h.block k aj⟩
theorem gy.below(h:gy s a b)(hs:s<=a.heap.size):Below s a b:=⟨h.os,h.tape,h.output,h.size,λk aj=>h.block k ad ad⟩
theorem gy.setCell{s:Nat}{a b:World}(h:gy s a b)(j:Nat)(v:Value):gy s a (b.setCell ⟨s,j,none⟩ v):=by
 refine⟨h.os,h.tape,h.output,by simpa using h.size,λk aj hn=>?_⟩;rw[Below.heap_setCell _ _ _ _ hn];exact h.block k aj hn
theorem gy.drew{s:Nat}{a b:World}(h:gy s a b):gy s a b.drew:=⟨h.os,h.tape,h.output,h.size,h.block⟩
theorem gy.cell{s:Nat}{a b:World}(h:gy s a b){k j:Nat}(aj:k<a.heap.size)(hn:k≠s):b.cell? ⟨k,j,none⟩=a.cell? ⟨k,j,none⟩:=World.cell?_of_block (h.block k aj hn)
structure cu(w:World)(s:Nat)(A:NH)(n c:Nat)(l:List Int):Prop where
 lt:s<w.heap.size
 c0:w.cell? ⟨s,0,none⟩=some (.slice A n c)
 c1:∃i:Nat,i<=n/\w.cell? ⟨s,1,none⟩=some (.int .i64 i)
 fz:w.frozen? ⟨s,1,none⟩=false
 ls:cp (EF bQ) 1 w s A n l
 hn:n<=1000
theorem cu.on(h:cu w s A n c l)(O:Below w w ab):cu ab s A n c l:=by
 have ap:=h.lt;refine⟨M0 h.lt O.size,?_,?_,?_,h.ls.fA (O.mono ad),h.hn⟩
 .exact(O.cell (p:=⟨s,0,none⟩) ap).trans h.c0
 .obtain⟨i,aN,hc⟩:=h.c1;exact⟨i,aN,(O.cell (p:=⟨s,1,none⟩) ap).trans hc⟩
 .exact(O.frozen (p:=⟨s,1,none⟩) ap).trans h.fz
def yf(w:World)(s:Nat)(A:NH)(n c:Nat)(l:List Int)(m:Int)(e:Ending)(ab:World):Prop:=
 ∃k,e=.returned (.int .i64 k)/\0<=k/\k<m/\cu ab s A n c l/\gy s w ab
theorem aZ(w:World)(s:Nat)(A:NH)(n c:Nat)(l:List Int)(m:Int)(h:cu w s A n c l)(hm:0<m)(aA:m<=4611686018427387904) :
  Calls prog 67 #[.pointer (some ⟨s,0,none⟩),m] w (yf w s A n c l m):=by
 have H:=ae h;obtain⟨ap,u,⟨i,aN,c4⟩,a8,y,hn⟩:=h;by_cases aB:i<n
 case neg=>
  have q:decide ((i:Int)>=n)=true:=by simp;omega
  clear y;go_enter func67,ntmps67;go_wp2;go_quiet (fail)
  go_wp2;go_ret;exact⟨0,rfl,ad,hm,H.on (dN (Below.refl _ _) _),.of (dN (Below.refl _ _) _)⟩
 have q:decide ((i:Int)>=n)=false:=by simp;omega
 obtain⟨b,o,x,rfl,O,hx,hc⟩:=y.int aB;clear hx y;go_enter func67,ntmps67;go_wp2;go_quiet (fail)
 go_wp2;obtain⟨h,aF,e,f,ao⟩:cu ((w.drewN nq).setCell ⟨s,1,none⟩ (.int .i64 ((i:Int)+1))) s (some ⟨b,o,none⟩) n c l/\gy s w ((w.drewN nq).setCell ⟨s,1,none⟩ (.int .i64 ((i:Int)+1)))/\
   ((w.drewN nq).setCell ⟨s,1,none⟩ (.int .i64 ((i:Int)+1))).cell? ⟨s,0,none⟩=some (.slice (some ⟨b,o,none⟩) n c)/\((w.drewN nq).setCell ⟨s,1,none⟩ (.int .i64 ((i:Int)+1))).cell? ⟨s,1,none⟩=some (.int .i64 ((i:Int)+1))/\
   ((w.drewN nq).setCell ⟨s,1,none⟩ (.int .i64 ((i:Int)+1))).cell? ⟨b,o+i,none⟩=some (.int .i64 x):=by
  have d:=H.on (dN (Below.refl _ _) nq);have aF:gy s w (w.drewN nq):=.of (dN (Below.refl _ _) nq);generalize w.drewN nq=v at *;have e0:(v.setCell ⟨s,1,none⟩ (.int .i64 ((i:Int)+1))).cell? ⟨s,0,none⟩=some (.slice (some ⟨b,o,none⟩) n c):=(World.cell?_setCell_other _ _ _ _ (by simp)).trans d.c0;have e1:(v.setCell ⟨s,1,none⟩ (.int .i64 ((i:Int)+1))).cell? ⟨s,1,none⟩=some (.int .i64 ((i:Int)+1)):=by
   obtain⟨k,_,aj⟩:=d.c1;simp[go_sem,aj]
  have b3:Below s v (v.setCell ⟨s,1,none⟩ (.int .i64 ((i:Int)+1))):=(Below.refl s v).setCell (p:=⟨s,1,none⟩) (MU s) _;refine⟨⟨by simpa using d.lt,e0,⟨i+1,ad,by rw[e1];simp⟩,(World.frozen?_setCell _ _ _ _).trans d.fz,d.ls.fA b3,d.hn⟩,aF.setCell _ _,e0,e1,?_⟩;rw[b3.cell (by exact O),<-hc];exact aF.cell ad ad
 have ag:IntKind.i64.wrap ((i:Int)+1 - 1)=i:=by rw[show (i:Int)+1 - 1=i by omega];exact IntWalk.i64_in _ ad
 have cG:=ah h aF;clear h aF H u c4 hc a8;generalize (w.drewN nq).setCell ⟨s,1,none⟩ (.int .i64 ((i:Int)+1))=v at *;go_quiet (first|(go_at_call 16;refine Calls.quiet_of_same ((ku x m hm aA _).mono λ_ _ h=>⟨h.1,h.2.symm⟩)))
 go_wp2;go_ret;have ba:=ur (x:=x) (n:=m) hm;exact⟨_,rfl,ba.1,ba.2,cG.1.on (dN (Below.refl _ _) _),cG.2.trans (.of (dN (Below.refl _ _) _))⟩
theorem cu.J2{g:Nat}(h:cu w s A n c l)(O:Below g w ab)(hs:s<g):cu ab s A n c l:=by
 have ap:=h.lt;refine⟨M0 h.lt O.size,?_,?_,?_,h.ls.fA (O.mono ad),h.hn⟩
 .exact(O.cell (p:=⟨s,0,none⟩) hs).trans h.c0
 .obtain⟨i,aN,hc⟩:=h.c1;exact⟨i,aN,(O.cell (p:=⟨s,1,none⟩) hs).trans hc⟩
 .exact(O.frozen (p:=⟨s,1,none⟩) hs).trans h.fz
theorem gy.eW{aW v:World}(h:gy s w aW)(O:Below w aW v):gy s w v:=
 ⟨O.os.trans h.os,O.tape.trans h.tape,O.output.trans h.output,Nl h.size O.size,λk aj hn=>(O.block k aj).trans (h.block k aj hn)⟩
theorem gy.frozen{s:Nat}{a b:World}(h:gy s a b){k j:Nat}(aj:k<a.heap.size)(hn:k≠s):b.frozen? ⟨k,j,none⟩=a.frozen? ⟨k,j,none⟩:=by
 simp only[World.frozen?,h.block k aj hn]
structure sX(w:World)(s b:Nat):Prop where
 lt:b<w.heap.size
 ne:b≠s
 cs:∃F s1 s2,w.cell? ⟨b,0,none⟩=some (.string F)/\w.cell? ⟨b,1,none⟩=some (.string s1)/\w.cell? ⟨b,2,none⟩=some (.string s2)
theorem sX.on{b:Nat}(h:sX w s b)(he:gy s w ab):sX ab s b:=by
 obtain⟨hl,hn,F,s1,s2,h0,ac,az⟩:=h;exact⟨M0 hl he.size,hn,F,s1,s2,(he.cell hl hn).trans h0,(he.cell hl hn).trans ac,(he.cell hl hn).trans az⟩
def VE.made:VE->Prop
 | .num n=>0<=n/\n<4611686018427387904
 | .gU _=>True
 | .loc _=>False
 | .ij _=>False
 | .un op x=>(op=3\/op=4)/\x.made
 | .bin op x y=>(5<=op/\op<=17)/\x.made/\y.made
theorem qP(w:World)(s:Nat)(A:NH)(n c:Nat)(l:List Int)(h:cu w s A n c l) :
  Calls prog 140 #[.pointer (some ⟨s,0,none⟩)] w (yf w s A n c l 4611686018427387904):=by
 have H:=ae h;clear h;go_enter func140,ntmps140;go_wp2_with(fail);refine(aZ _ s A n c l 8 H.o ad ad).mono ?_;rintro e aO ⟨k,rfl,bE,ce,ac,ar⟩;have H1:=ah ac ar;clear ac ar;by_cases aj:k=1
 .have q:(k == 1)=true:=by simpa using aj
  go_wp2_with(fail);refine(aZ _ s A n c l 4611686018427387904 H1.1 ad ad).mono ?_;rintro e aW ⟨bR,rfl,cK,ed,az,bF⟩;have b1:=ah az bF;clear az bF;go_wp2;go_ret;exact⟨bR,rfl,cK,ed,b1.1,H1.2.trans b1.2⟩
 .have q:(k == 1)=false:=by simpa using aj
  go_wp2_with(fail);refine(aZ _ s A n c l 4 H1.1 ad ad).mono ?_;rintro e aW ⟨bR,rfl,cK,ed,az,bF⟩;have b1:=ah az bF;clear az bF;go_wp2;go_ret;exact⟨bR,rfl,cK,ad,b1.1,H1.2.trans b1.2⟩
theorem Sl.yP{P:Nat->Prop}(h:Sl w P A n (l.map .i)){k:Nat}(aj:k<n):
  ∃b o x,A=some ⟨b,o,none⟩/\P b/\l[k]?=some x/\w.cell? ⟨b,o+k,none⟩=some (.int .i64 x):=by
 obtain⟨b,o,x,cs,bF,O,hx,ba,hl,hc⟩:=Sl.g1 (z:=1) h (λ_=>rfl) aj;simp only[D.rep] at ba;subst ba;exact⟨b,o,x,bF,O,hx,by have:=hc 0 _ rfl;simpa using this⟩
theorem kq(A A2:NH)(n c n2 c2:Nat)(S T:List Int)(w:World)(hs:Sl w (av w) A n (S.map .i))(ht:Sl w (av w) A2 n2 (T.map .i))(hn:n<=140737488355328) :
  Calls prog 25 #[.slice A n c,.slice A2 n2 c2] w λr ab=>r=.returned (.bool (decide (S=T)))/\Below w w ab:=by
 have hl:S.length=n:=by have:=hs.1;simpa using this
 have cm:T.length=n2:=by have:=ht.1;simpa using this
 by_cases bl:n=n2
 case neg=>
  have a3:=ae (show decide (S=T)=false from decide_eq_false (λh=>bl (by rw[<-hl,<-cm,h])));have f:(n != n2)=true:=by simpa using bl
  have e:((n:Int) != (n2:Int))=true:=by simp;omega
  clear hl cm bl;go_enter func25,ntmps25;go_wp2;go_ret;exact⟨ret_bool (by rw[a3.o]),Below.refl _ _⟩
 subst bl;obtain⟨bT,ai⟩:=aJ hl cm;clear hl cm;have bH:((n:Int) != (n:Int))=false:=by simp
 go_enter func25,ntmps25;go_wp2;go_loopw [5] (λi wr=>∃k:Nat,k<=n/\i=.int .i64 k/\(∀j,j<k->S[j]?=T[j]?)/\Below w w wr) (λi _=>n - (intOf i).toNat)
 case atStart=>exact⟨0,Nq _,rfl,λj bi=>absurd bi ad,Below.refl _ _⟩
 case round=>
  obtain⟨k,aj,rfl,bY,O⟩:=hrel;have aY:=ae bY;clear bY;by_cases ap:k<n
  .obtain⟨b,o,x,rfl,ao,hx,c0⟩:=(hs.on O).yP ap;obtain⟨ct,da,d,rfl,l,g,d0⟩:=(ht.on O).yP ap;have bE:(0:Int)<=(k:Int):=ad;have ce:(k:Int)<(n:Int):=ad;by_cases hd:x=d
   .have aP:=ae (show S[k]?=T[k]? by rw[hx,g,hd]);have C:(x != d)=false:=by simp[hd]
    clear hx g hd;go_wp2;go_quiet (fail)
    go_wp2;go_roundw
    case rel=>
     refine⟨k+1,ad,by go_num,λj bi=>?_,dN O _⟩;exact AX
    case measure=>exact aH
   .have a3:=ae (show decide (S=T)=false from decide_eq_false (λh=>by
     subst h;rw[hx] at g;injection g with g;exact hd g))
    have C:(x != d)=true:=by simp[hd]
    clear hx g hd;go_wp2;go_quiet (fail)
    go_wp2;go_ret;exact⟨ret_bool (by rw[a3.o]),dN O _⟩
  .obtain rfl:k=n:=ad;have a3:=ae (show decide (S=T)=true from decide_eq_true (by
    apply List.ext_getElem?
    intro j;by_cases bi:j<k
    .exact aY.o j bi
    .rw[List.getElem?_eq_none (ax bT.o),List.getElem?_eq_none (ax ai.o)]))
   exact uB
theorem zK(A:NH)(n c:Nat)(S:List Int)(b0:Int)(w:World)(hs:Sl w (av w) A n (S.map .i))(hn:n<=140737488355328) :
  Calls prog 101 #[.slice A n c,b0] w λr ab=>r=.returned (.bool (decide (b0∈S)))/\Below w w ab:=by
 have hl:S.length=n:=by have:=hs.1;simpa using this
 have bT:=ae hl;clear hl;go_enter func101,ntmps101;go_wp2;go_loopw [5] (λi wr=>∃k:Nat,k<=n/\i=.int .i64 k/\(∀j,j<k->S[j]?≠some b0)/\Below w w wr) (λi _=>n - (intOf i).toNat)
 case atStart=>exact⟨0,Nq _,rfl,λj bi=>absurd bi ad,Below.refl _ _⟩
 case round=>
  obtain⟨k,aj,rfl,bY,O⟩:=hrel;have aY:=ae bY;clear bY;by_cases ap:k<n
  .obtain⟨b,o,x,rfl,ao,hx,c0⟩:=(hs.on O).yP ap;have bE:(0:Int)<=(k:Int):=ad;have ce:(k:Int)<(n:Int):=ad;by_cases hd:x=b0
   .have a3:=ae (show decide (b0∈S)=true from decide_eq_true (hd▸M4 hx));have C:(x == b0)=true:=by simp[hd]
    clear hx hd;exact uB
   .have aP:=ae (show S[k]?≠some b0 by rw[hx];intro h;injection h with h;exact hd h);have C:(x == b0)=false:=by simp[hd]
    clear hx hd;go_wp2;go_roundw
    case rel=>
     refine⟨k+1,ad,by go_num,λj bi=>?_,O⟩;exact AX
    case measure=>exact aH
  .obtain rfl:k=n:=ad;have a3:=ae (show decide (b0∈S)=false from decide_eq_false (λh=>by
    obtain⟨j,bi,he⟩:=List.mem_iff_getElem.1 h;exact aY.o j (ax bT.o) (by rw[List.getElem?_eq_getElem bi,he])))
   exact uB
theorem zW(cq:Int)(A:NH)(n c:Nat)(L:List Int)(p:bO)(q:List Value)(sl:Value)(w:World)(hs:Sl w (av w) A n (L.map .i))(hn:n<=140737488355328)(hp:p.param=true->0<=p.index/\p.index<n) :
  Calls prog 100 #[.agg #[cq,.slice A n c],.agg #[.bool p.param,.int .i64 p.index,sl]] w λr ab=>r=.returned (.int .i64 (if p.param then L.getD p.index.toNat 0 else p.index))/\Ext w ab:=by
 obtain⟨pm,i,a⟩:=p;simp only at hp ⊢;cases pm
 .go_enter func100,ntmps100;go_wp2;go_ret;exact⟨rfl,(NC.alloc _).alloc _⟩
 .obtain⟨h0,ac⟩:=hp rfl;obtain⟨k,rfl⟩:=M6 h0;have aj:k<n:=ad;obtain⟨b,o,x,rfl,ao,hx,c0⟩:=hs.yP aj;have aP:=ae (show L.getD (Int.toNat k) 0=x by rw[List.getD_eq_getElem?_getD,Np,hx];rfl);clear hx;suffices ag:Calls prog 100 #[.agg #[cq,.slice (some ⟨b,o,none⟩) n c],.agg #[true,k,sl]] w λr ab=>r=.returned x/\Ext w ab from
   ag.mono λe aO ac=>⟨ac.1.trans (by rw[<-aP.o];simp),ac.2⟩
  go_enter func100,ntmps100;go_wp2;go_ret;exact⟨rfl,(NC.alloc _).alloc _⟩
theorem we(x:Int):∃k,wrap64 x=x - 18446744073709551616*k:=⟨(x+9223372036854775808) / 18446744073709551616,by unfold wrap64;omega⟩
theorem rC(z m:Int):wrap64 (z - 18446744073709551616*m)=wrap64 z:=by unfold wrap64;omega
theorem pg(x y:Int):wrap64 (wrap64 x*y)=wrap64 (x*y):=by
 obtain⟨k,aj⟩:=we x;rw[aj,show (x - 18446744073709551616*k)*y=x*y - 18446744073709551616*(k*y) by rw[Int.sub_mul,Int.mul_assoc],rC]
theorem ou(x y:Int):wrap64 (x - wrap64 y)=wrap64 (x - y):=by
 obtain⟨k,aj⟩:=we y;rw[aj,show x - (y - 18446744073709551616*k)=x - y - 18446744073709551616*(-k) by omega,rC]
end Go.Proofs.YtnigabjngpnbiabGreat

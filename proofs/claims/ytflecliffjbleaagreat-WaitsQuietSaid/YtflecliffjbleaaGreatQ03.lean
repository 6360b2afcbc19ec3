/- Part 3 of the proof. No condition of its own. -/
import Derived.Test.YtflecliffjbleaaGreatQ02
namespace Go.Proofs.YtflecliffjbleaaGreat
open Go.RowKit Go.Proofs.Tryz
set_option maxRecDepth 1000000
set_option maxHeartbeats 25600000
set_option linter.unusedVariables false
variable{g l:List Int}{cs:List Value}{B c n s:Nat}{A:LP}{p:Prop}{x:VE}{a ac b w:World}
section
attribute [local go_sem ↓] gi gj
structure lY(w:World)(G L:LP)(ng nl:Nat)(g l:List Int)(e:VE)(cs:List Value):Prop where
 gs:cK (EF b5) 1 w w.heap.size G ng g
 ls:cK (EF b5) 1 w w.heap.size L nl l
 ok:e.ok ng nl
 rep:e.at_ w cs
theorem lY.on{G L:LP}{ng nl:Nat}{e:VE}(h:lY w G L ng nl g l e cs)(O:Below w.heap.size w ac):lY ac G L ng nl g l e cs:=
 ⟨h.gs.cS O O.size,h.ls.cS O O.size,h.ok,VE.IC h.rep O⟩
def ju(e:VE):Prop:=∀(w:World) (G L:LP) (ng nl cg cl:Nat) (g l:List Int) (c0 c1 c2 c3:Value),lY w G L ng nl g l e [c0,c1,c2,c3]->
 Calls prog 116 #[.agg #[.slice G ng cg,.slice L nl cl],.agg #[c0,c1,c2,c3]] w (fS w (ev g l e))
def jS(e:VE):Prop:=∀(w:World) (G L:LP) (ng nl cg cl:Nat) (g l:List Int) (c0 c1 c2 c3:Value),lY w G L ng nl g l e [c0,c1,c2,c3]->
 Calls prog 137 #[.agg #[.slice G ng cg,.slice L nl cl],.agg #[c0,c1,c2,c3]] w (fS w (ev g l e))
def pr(e:VE):Prop:=∀(w:World) (G L:LP) (ng nl cg cl:Nat) (g l:List Int) (c0 c1 c2 c3:Value),lY w G L ng nl g l e [c0,c1,c2,c3]->
 Calls prog 138 #[.agg #[.slice G ng cg,.slice L nl cl],.agg #[c0,c1,c2,c3]] w (fS w (ev g l e))
theorem l4(a b:Obj):Below w.heap.size w ((w.alloc a).alloc b):=((Below.refl _ _).alloc (Lb _) _).alloc (by simp) _
theorem w0(n:Int):jS (.num n):=by
 intro w G L ng nl cg cl g l c0 c1 c2 c3 h;obtain⟨nm,A,c,T⟩:=h.rep;injection T with h0 T;injection T with ae T;injection T with aD T;injection T with aU T;subst h0 ae aD aU;clear h T;go_enter func137,ntmps137;go_wp2
 go_ret2
 exact fS.mk' rfl (l4 _ _)
namespace Bs
theorem A7(h:p:=by
 have u:=ad bv;clear ax e0 e1 e2 e3 bv;have ai:∀V:World,Below W.heap.size W V->V.cell? ⟨w.heap.size,0,none⟩=some (.slice G ng cg)/\V.cell? ⟨w.heap.size,1,none⟩=some (.slice L nl cl)/\V.cell? ⟨w.heap.size+1,0,none⟩=some (.int .i64 op)/\V.cell? ⟨w.heap.size+1,3,none⟩=some (.slice (some ⟨b,o,none⟩) 1 c)/\
   V.cell? ⟨b,o,none⟩=some bs/\V.cell? ⟨b,o+1,none⟩=some Z/\V.cell? ⟨b,o+2,none⟩=some bu/\V.cell? ⟨b,o+3,none⟩=some E:=λV hV=>by
  have U:=u.o;have al:b<W.heap.size:=by have:=O;omega
  exact⟨(hV.cell (p:=⟨w.heap.size,0,none⟩) (by simp only[];omega)).trans a0,(hV.cell (p:=⟨w.heap.size,1,none⟩) (by simp only[];omega)).trans i,(hV.cell (p:=⟨w.heap.size+1,0,none⟩) (by simp only[];omega)).trans a3,(hV.cell (p:=⟨w.heap.size+1,3,none⟩) (by simp only[];omega)).trans q,
   (hV.cell (p:=⟨b,o,none⟩) al).trans d0,(hV.cell (p:=⟨b,o+1,none⟩) al).trans d1,(hV.cell (p:=⟨b,o+2,none⟩) al).trans d2,(hV.cell (p:=⟨b,o+3,none⟩) al).trans d3⟩
 have co:=ad ai;clear ai a0 i a3 q d0 d1 d2 d3;go_region_held3 (λV=>V.cell? ⟨w.heap.size,0,none⟩=some (.slice G ng cg)/\V.cell? ⟨w.heap.size,1,none⟩=some (.slice L nl cl)/\V.cell? ⟨w.heap.size+1,0,none⟩=some (.int .i64 op)/\V.cell? ⟨w.heap.size+1,3,none⟩=some (.slice (some ⟨b,o,none⟩) 1 c)/\
   V.cell? ⟨b,o,none⟩=some bs/\V.cell? ⟨b,o+1,none⟩=some Z/\V.cell? ⟨b,o+2,none⟩=some bu/\V.cell? ⟨b,o+3,none⟩=some E)
  (first|exact co.o _ (Below.refl _ _)|exact co.o _ (Below.refl _ _).drew|exact co.o _ a9)
  (first|(go_at_call 116;refine(ct.o _ G L ng nl cg cl g l bs Z bu E ?_).mono ?_;(exact be.on (Below.refl _ _).drew);rintro r ac ⟨rfl,d⟩;have a9:Below W.heap.size W ac:=(Below.refl W.heap.size W).drew.trans d;clear d))
 have J:=(f.trans (a9.mono f.size))
 have a8:=ad (show ev g l (.un op x)=if (ev g l x).2≠0 then (0,(ev g l x).2) else if op=3 then (wrap64 (-(ev g l x).1),0) else (ff ((ev g l x).1 == 0),0) from rfl);generalize ev g l x=r1 at *;obtain⟨v1,f1⟩:=r1;clear co ct be;by_cases N:f1=0
 case neg=>
  have q1:(f1 != 0)=true:=by simpa using N
  have a7:=ad (show ev g l (.un op x)=(0,f1) by rw[a8.o];simp[N]);clear N;go_wp2
  go_ret2
  exact fS.mk' a7.o J
 have q1:(f1 != 0)=false:=by simpa using N
 rcases bq.o with aU|a1
 .have a7:=ad (show ev g l (.un op x)=(wrap64 (-v1),0) by rw[a8.o];simp[N,aU]);subst aU;clear N;go_wp2
  go_ret2
  exact fS.mk' a7.o J
 .have a7:=ad (show ev g l (.un op x)=(ff (v1 == 0),0) by rw[a8.o];simp[N,a1]);subst a1;clear N;go_wp2_with((go_at_call 150;refine(kd _ _).mono ?_;rintro e ac ⟨rfl,rfl⟩))
  go_ret2
  exact fS.mk' a7.o J
 ):p:=h
theorem AM(h:p:=by
 obtain⟨ct,bq⟩:=aM Q aG;clear h hx Q;have b9:(op == 1)=false:=by simp;omega
 have g2:(op == 18)=false:=by simp;omega
 have cI:(op == 19)=false:=by simp;omega
 clear aG;go_enter func137,ntmps137;go_wp2;have f:=l4 (w:=w) (.cells #[.slice G ng cg,.slice L nl cl] 201) (.cells #[.int .i64 op,.int .i64 n,.string nm,.slice (some ⟨b,o,none⟩) 1 c] 56);have a0:((w.alloc (.cells #[.slice G ng cg,.slice L nl cl] 201)).alloc (.cells #[.int .i64 op,.int .i64 n,.string nm,.slice (some ⟨b,o,none⟩) 1 c] 56)).cell? ⟨w.heap.size,0,none⟩=some (.slice G ng cg):=by simp[go_sem]
 have i:((w.alloc (.cells #[.slice G ng cg,.slice L nl cl] 201)).alloc (.cells #[.int .i64 op,.int .i64 n,.string nm,.slice (some ⟨b,o,none⟩) 1 c] 56)).cell? ⟨w.heap.size,1,none⟩=some (.slice L nl cl):=by simp[go_sem]
 have a3:((w.alloc (.cells #[.slice G ng cg,.slice L nl cl] 201)).alloc (.cells #[.int .i64 op,.int .i64 n,.string nm,.slice (some ⟨b,o,none⟩) 1 c] 56)).cell? ⟨w.heap.size+1,0,none⟩=some (.int .i64 op):=by simp[go_sem]
 have q:((w.alloc (.cells #[.slice G ng cg,.slice L nl cl] 201)).alloc (.cells #[.int .i64 op,.int .i64 n,.string nm,.slice (some ⟨b,o,none⟩) 1 c] 56)).cell? ⟨w.heap.size+1,3,none⟩=some (.slice (some ⟨b,o,none⟩) 1 c):=by simp[go_sem]
 have bv:((w.alloc (.cells #[.slice G ng cg,.slice L nl cl] 201)).alloc (.cells #[.int .i64 op,.int .i64 n,.string nm,.slice (some ⟨b,o,none⟩) 1 c] 56)).heap.size=w.heap.size+2:=by simp
 generalize (w.alloc (.cells #[.slice G ng cg,.slice L nl cl] 201)).alloc (.cells #[.int .i64 op,.int .i64 n,.string nm,.slice (some ⟨b,o,none⟩) 1 c] 56)=W at *;have be:=ax.on f;exact A6
 ):p:=h
end Bs
open Bs in
theorem zg(op:Int)(x:VE)(Q:ju x):jS (.un op x):=by
 intro w G L ng nl cg cl g l c0 c1 c2 c3 h;exact AL
theorem qS(e:VE)(k:Int)(he:e=.loc k\/e=.iz k):jS e:=by
 intro w G L ng nl cg cl g l c0 c1 c2 c3 h;have a:=l4 (w:=w) (.cells #[.slice G ng cg,.slice L nl cl] 201) (.cells #[c0,c1,c2,c3] 56);have bJ:=h.gs.cS a a.size;have y:=h.ls.cS a a.size;clear a;have cc:=h.ok;rcases he with rfl|rfl
 all_goals
  obtain⟨nm,A,c,T⟩:=h.rep;injection T with h0 T;injection T with ae T;injection T with aD T;injection T with aU T;subst h0 ae aD aU;clear h T;obtain⟨bw,ci⟩:=cc;go_enter func137,ntmps137;go_wp2_with(fail)
  first
  | refine(oa L nl cl l k _ y bw ci).mono ?_
  | refine(oa G ng cg g k _ bJ bw ci).mono ?_
  rintro e ac ⟨rfl,rfl⟩;go_wp2
  go_ret2
  exact fS.mk' rfl (l4 _ _)
namespace Bt
theorem AS(h:p:=by
 obtain⟨HA,bq⟩:=aM aW bl;clear a8;have split:(op == 16)=true/\(v1 == 0)=false/\(op == 17)=false\/(op == 16)=false/\(op == 17)=true/\(v1 != 0)=false\/(op == 16)=false/\(op == 17)=false:=by
  exact Gp
 clear aW bl;have bB:=ad split;clear split;rcases bB.o with⟨R,bF,aK⟩|⟨R,bF,aK⟩|⟨R,bF⟩
 all_goals
  go_wp2;go_region_held3 (λV=>V.cell? ⟨w.heap.size,0,none⟩=some (.slice G ng cg)/\V.cell? ⟨w.heap.size,1,none⟩=some (.slice L nl cl)/\V.cell? ⟨w.heap.size+1,0,none⟩=some (.int .i64 op)/\V.cell? ⟨w.heap.size+1,3,none⟩=some (.slice (some ⟨b,o,none⟩) 2 c)/\V.cell? ⟨b,o,none⟩=some bs/\V.cell? ⟨b,o+1,none⟩=some Z/\V.cell? ⟨b,o+2,none⟩=some bu/\V.cell? ⟨b,o+3,none⟩=some E/\V.cell? ⟨b,o+4,none⟩=some cu/\V.cell? ⟨b,o+5,none⟩=some cr/\V.cell? ⟨b,o+6,none⟩=some br/\V.cell? ⟨b,o+7,none⟩=some aa)
   (first|exact co.o _ (Below.refl _ _)|exact co.o _ (Below.refl _ _).drew|exact co.o _ aA|exact co.o _ a9|exact co.o _ a9.drew)
   (first|(go_at_call 116;refine(t.o _ G L ng nl cg cl g l cu cr br aa ?_).mono ?_;(exact(P.on a9).on (Below.refl _ _).drew);rintro r b3 ⟨rfl,d⟩;have aA:Below W.heap.size W b3:=a9.drew.trans (d.mono a9.size);clear d))
  have J:=(f.trans (aA.mono f.size))
  generalize ev g l y=gG at *;obtain⟨v2,f2⟩:=gG;by_cases ay:f2=0
  case neg=>
   have cw:(f2 != 0)=true:=by simpa using ay
   have bw:=ad (show ev g l (.bin op x y)=(0,f2) by rw[bX.o];simp[ay]);clear ay;go_wp2
   go_ret2
   exact fS.mk' bw.o J
  have cw:(f2 != 0)=false:=by simpa using ay
  have bw:=ad (show ev g l (.bin op x y)=if op=16\/op=17 then (ff (v2 != 0),0) else arith op v1 v2 by rw[bX.o];simp[ay]);clear ay bX
  first
  | (have F:=ad (show ev g l (.bin op x y)=(ff (v2 != 0),0) by rw[bw.o,if_pos (by first|exact .inl (by simpa using R)|exact .inr (by simpa using bF))]);go_wp2_with((go_at_call 150;refine(kd _ _).mono ?_;rintro e ac ⟨rfl,rfl⟩));go_ret2;exact fS.mk' F.o J)
  | (have a6:op≠16/\op≠17:=⟨by simpa using R,by simpa using bF⟩;have F:=ad (show ev g l (.bin op x y)=arith op v1 v2 by rw[bw.o,if_neg ab]);go_wp2_with(fail);refine(pK op v1 v2 ab _).mono ?_;rintro e cz ⟨rfl,aI⟩;go_wp2;go_ret2;exact fS.mk' (by rw[F.o]) (J.trans (aI.mono J.size)))
 ):p:=h
theorem Az(h:p:=by
 clear ct be;by_cases N:f1=0
 case neg=>
  have q1:(f1 != 0)=true:=by simpa using N
  have a7:=ad (show ev g l (.bin op x y)=(0,f1) by rw[a8.o];simp[N]);clear N;go_wp2
  go_ret2
  exact fS.mk' a7.o J
 have q1:(f1 != 0)=false:=by simpa using N
 have a1:=ad N;clear N;by_cases aW:op=16/\v1=0
 .obtain⟨rfl,rfl⟩:=aW;have a7:=ad (show ev g l (.bin 16 x y)=(0,0) by rw[a8.o];simp[a1.o]);go_wp2
  go_ret2
  exact fS.mk' a7.o J
 by_cases bl:op=17/\v1≠0
 .obtain⟨rfl,bD⟩:=bl;have cp:(v1 != 0)=true:=by simpa using bD
  have a7:=ad (show ev g l (.bin 17 x y)=(1,0) by rw[a8.o];simp[a1.o,bD]);clear bD;go_wp2
  go_ret2
  exact fS.mk' a7.o J
 exact AR
 ):p:=h
theorem A7(h:p:=by
 have d4:=(f.cell (p:=⟨b,o+4,none⟩) O).trans cF;have d5:=(f.cell (p:=⟨b,o+5,none⟩) O).trans cN;have d6:=(f.cell (p:=⟨b,o+6,none⟩) O).trans bH;have d7:=(f.cell (p:=⟨b,o+7,none⟩) O).trans e7;have u:=ad bv;clear ax j e0 e1 e2 e3 cF cN bH e7 bv;have ai:∀V:World,Below W.heap.size W V->V.cell? ⟨w.heap.size,0,none⟩=some (.slice G ng cg)/\V.cell? ⟨w.heap.size,1,none⟩=some (.slice L nl cl)/\V.cell? ⟨w.heap.size+1,0,none⟩=some (.int .i64 op)/\V.cell? ⟨w.heap.size+1,3,none⟩=some (.slice (some ⟨b,o,none⟩) 2 c)/\V.cell? ⟨b,o,none⟩=some bs/\V.cell? ⟨b,o+1,none⟩=some Z/\V.cell? ⟨b,o+2,none⟩=some bu/\V.cell? ⟨b,o+3,none⟩=some E/\V.cell? ⟨b,o+4,none⟩=some cu/\V.cell? ⟨b,o+5,none⟩=some cr/\V.cell? ⟨b,o+6,none⟩=some br/\V.cell? ⟨b,o+7,none⟩=some aa:=λV hV=>by
  have U:=u.o;have al:b<W.heap.size:=by have:=O;omega
  exact⟨(hV.cell (p:=⟨w.heap.size,0,none⟩) (by simp only[];omega)).trans a0,(hV.cell (p:=⟨w.heap.size,1,none⟩) (by simp only[];omega)).trans i,(hV.cell (p:=⟨w.heap.size+1,0,none⟩) (by simp only[];omega)).trans a3,(hV.cell (p:=⟨w.heap.size+1,3,none⟩) (by simp only[];omega)).trans q,(hV.cell (p:=⟨b,o,none⟩) al).trans d0,(hV.cell (p:=⟨b,o+1,none⟩) al).trans d1,(hV.cell (p:=⟨b,o+2,none⟩) al).trans d2,(hV.cell (p:=⟨b,o+3,none⟩) al).trans d3,(hV.cell (p:=⟨b,o+4,none⟩) al).trans d4,(hV.cell (p:=⟨b,o+5,none⟩) al).trans d5,(hV.cell (p:=⟨b,o+6,none⟩) al).trans d6,(hV.cell (p:=⟨b,o+7,none⟩) al).trans d7⟩
 have co:=ad ai;clear ai a0 i a3 q d0 d1 d2 d3 d4 d5 d6 d7;go_region_held3 (λV=>V.cell? ⟨w.heap.size,0,none⟩=some (.slice G ng cg)/\V.cell? ⟨w.heap.size,1,none⟩=some (.slice L nl cl)/\V.cell? ⟨w.heap.size+1,0,none⟩=some (.int .i64 op)/\V.cell? ⟨w.heap.size+1,3,none⟩=some (.slice (some ⟨b,o,none⟩) 2 c)/\V.cell? ⟨b,o,none⟩=some bs/\V.cell? ⟨b,o+1,none⟩=some Z/\V.cell? ⟨b,o+2,none⟩=some bu/\V.cell? ⟨b,o+3,none⟩=some E/\V.cell? ⟨b,o+4,none⟩=some cu/\V.cell? ⟨b,o+5,none⟩=some cr/\V.cell? ⟨b,o+6,none⟩=some br/\V.cell? ⟨b,o+7,none⟩=some aa)
  (first|exact co.o _ (Below.refl _ _)|exact co.o _ (Below.refl _ _).drew|exact co.o _ a9|exact co.o _ a9|exact co.o _ a9.drew)
  (first|(go_at_call 116;refine(ct.o _ G L ng nl cg cl g l bs Z bu E ?_).mono ?_;(exact be.on (Below.refl _ _).drew);rintro r aV ⟨rfl,d⟩;have a9:Below W.heap.size W aV:=(Below.refl W.heap.size W).drew.trans (d.mono (Lb _));clear d))
 have J:=(f.trans (a9.mono f.size))
 exact Ay
 ):p:=h
theorem As(h:p:=by
 obtain⟨ct,t⟩:=aM k s;clear h hx a4 k s;go_enter func138,ntmps138;go_wp2;have f:=l4 (w:=w) (.cells #[.slice G ng cg,.slice L nl cl] 201) (.cells #[.int .i64 op,.int .i64 n,.string nm,.slice (some ⟨b,o,none⟩) 2 c] 56);have a0:((w.alloc (.cells #[.slice G ng cg,.slice L nl cl] 201)).alloc (.cells #[.int .i64 op,.int .i64 n,.string nm,.slice (some ⟨b,o,none⟩) 2 c] 56)).cell? ⟨w.heap.size,0,none⟩=some (.slice G ng cg):=by simp[go_sem]
 have i:((w.alloc (.cells #[.slice G ng cg,.slice L nl cl] 201)).alloc (.cells #[.int .i64 op,.int .i64 n,.string nm,.slice (some ⟨b,o,none⟩) 2 c] 56)).cell? ⟨w.heap.size,1,none⟩=some (.slice L nl cl):=by simp[go_sem]
 have a3:((w.alloc (.cells #[.slice G ng cg,.slice L nl cl] 201)).alloc (.cells #[.int .i64 op,.int .i64 n,.string nm,.slice (some ⟨b,o,none⟩) 2 c] 56)).cell? ⟨w.heap.size+1,0,none⟩=some (.int .i64 op):=by simp[go_sem]
 have q:((w.alloc (.cells #[.slice G ng cg,.slice L nl cl] 201)).alloc (.cells #[.int .i64 op,.int .i64 n,.string nm,.slice (some ⟨b,o,none⟩) 2 c] 56)).cell? ⟨w.heap.size+1,3,none⟩=some (.slice (some ⟨b,o,none⟩) 2 c):=by simp[go_sem]
 have bv:((w.alloc (.cells #[.slice G ng cg,.slice L nl cl] 201)).alloc (.cells #[.int .i64 op,.int .i64 n,.string nm,.slice (some ⟨b,o,none⟩) 2 c] 56)).heap.size=w.heap.size+2:=by simp
 generalize (w.alloc (.cells #[.slice G ng cg,.slice L nl cl] 201)).alloc (.cells #[.int .i64 op,.int .i64 n,.string nm,.slice (some ⟨b,o,none⟩) 2 c] 56)=W at *;have be:=ax.on f;have P:=j.on f;exact A6
 ):p:=h
end Bt
open Bt in
theorem vY(op:Int)(x y:VE)(k:ju x)(s:ju y):pr (.bin op x y):=by
 intro w G L ng nl cg cl g l c0 c1 c2 c3 h;exact Ar
theorem mU(e:VE)(S:jS e)(hl:∀w cs,e.at_ w cs->∃op n nm A k c,cs=[.int .i64 op,.int .i64 n,.string nm,.slice A k c]/\k<=1):ju e:=by
 intro w G L ng nl cg cl g l c0 c1 c2 c3 h;obtain⟨op,n,nm,A,k,c,T,ai⟩:=hl _ _ h.rep;injection T with h0 T;injection T with ae T;injection T with aD T;injection T with aU T;subst h0 ae aD aU;clear T;have bB:=ad S;clear S hl;have q:((k:Int) == 2)=false:=by simp;omega
 have aq:(k == 2)=false:=by simp;omega
 clear ai;go_enter func116,ntmps116;go_wp2_with(fail);have f:=l4 (w:=w) (.cells #[.slice G ng cg,.slice L nl cl] 201) (.cells #[.int .i64 op,.int .i64 n,.string nm,.slice A k c] 56);have ax:=h.on f;clear h;refine(bB.o _ G L ng nl cg cl g l _ _ _ _ ax).mono ?_;rintro r ac ⟨rfl,O⟩;go_wp2
 go_ret2
 exact fS.mk' rfl (f.trans (O.mono f.size))
theorem Dj(op:Int)(x y:VE)(S:pr (.bin op x y)):ju (.bin op x y):=by
 intro w G L ng nl cg cl g l c0 c1 c2 c3 h;obtain⟨n,nm,b,o,c,bs,Z,bu,E,cu,cr,br,aa,T,_⟩:=h.rep;injection T with h0 T;injection T with ae T;injection T with aD T;injection T with aU T;subst h0 ae aD aU;clear T;have bB:=ad S;clear S;go_enter func116,ntmps116;go_wp2_with(fail);have f:=l4 (w:=w) (.cells #[.slice G ng cg,.slice L nl cl] 201) (.cells #[.int .i64 op,.int .i64 n,.string nm,.slice (some ⟨b,o,none⟩) 2 c] 56);have ax:=h.on f;clear h;refine(bB.o _ G L ng nl cg cl g l _ _ _ _ ax).mono ?_;rintro r ac ⟨rfl,O⟩;go_wp2
 go_ret2
 exact fS.mk' rfl (f.trans (O.mono f.size))
theorem oW:∀e:VE,ju e
 | .num n=>mU _ (w0 n) (λw cs h=>by obtain⟨nm,A,c,rfl⟩:=h;exact⟨_,_,_,_,_,_,rfl,ab⟩)
 | .gT s=>λw G L ng nl cg cl g l c0 c1 c2 c3 h=>h.ok.elim
 | .loc k=>mU _ (qS _ k (.inl rfl)) (λw cs h=>by obtain⟨nm,A,c,rfl⟩:=h;exact⟨_,_,_,_,_,_,rfl,ab⟩)
 | .iz k=>mU _ (qS _ k (.inr rfl)) (λw cs h=>by obtain⟨nm,A,c,rfl⟩:=h;exact⟨_,_,_,_,_,_,rfl,ab⟩)
 | .un op x=>mU _ (zg op x (oW x)) (λw cs h=>by obtain⟨n,nm,b,o,c,bs,Z,bu,E,rfl,_⟩:=h;exact⟨_,_,_,_,_,_,rfl,ab⟩)
 | .bin op x y=>Dj op x y (vY op x y (oW x) (oW y))
theorem zq(e:VE)(w:World)(G L:LP)(ng nl cg cl:Nat)(g l:List Int)(c0 c1 c2 c3:Value)(h:lY w G L ng nl g l e [c0,c1,c2,c3]) :
  Calls prog 93 #[.agg #[c0,c1,c2,c3],.slice G ng cg,.slice L nl cl] w (fS w (ev g l e)):=by
 have a8:=ad (oW e);go_enter func93,ntmps93;go_wp2_with(fail);have f:=(Below.refl w.heap.size w).alloc (Lb _) (.cells #[c0,c1,c2,c3] 56);have ax:=h.on f;clear h;refine(a8.o _ G L ng nl cg cl g l _ _ _ _ ax).mono ?_;rintro r ac ⟨rfl,O⟩;go_wp2
 go_ret2
 exact fS.mk' rfl (f.trans (O.mono f.size))
end
def Ie(w:World)(x:VE)(e:Ending)(ac:World):Prop:=∃c0 c1 c2 c3,e=.returned (.agg #[c0,c1,c2,c3])/\x.rep ac (λb=>w.heap.size<=b/\b<ac.heap.size) [c0,c1,c2,c3]/\Below w.heap.size w ac
theorem Ie.mk'{y:VE}{c0 c1 c2 c3:Value}(hx:x=y)(h:y.rep ac (λb=>w.heap.size<=b/\b<ac.heap.size) [c0,c1,c2,c3])(O:Below w.heap.size w ac):Ie w x (.returned (.agg #[c0,c1,c2,c3])) ac:=by
 subst hx;exact⟨_,_,_,_,rfl,h,O⟩
def HC(n:Int):VE:=if 0<=n then .num n else .bin 9 (.un 3 (.num (wrap64 (-(wrap64 (n+1)))))) (.num 1)
theorem lY.new(h:x.rep ac (λb=>B<=b/\b<ac.heap.size) cs)(cc:x.ok 0 0):lY ac none none 0 0 [] [] x cs:=
 ⟨cK.bN _,cK.bN _,cc,VE.aE (λ_ h=>h.2) _ _ h⟩
theorem vl(x:Int):∃k,wrap64 x=x - 18446744073709551616*k:=⟨(x+9223372036854775808) / 18446744073709551616,by unfold wrap64;omega⟩
theorem q4(z m:Int):wrap64 (z - 18446744073709551616*m)=wrap64 z:=by unfold wrap64;omega
theorem oL(x y:Int):wrap64 (wrap64 x*y)=wrap64 (x*y):=by
 obtain⟨k,ai⟩:=vl x;rw[ai,show (x - 18446744073709551616*k)*y=x*y - 18446744073709551616*(k*y) by rw[Int.sub_mul,Int.mul_assoc],q4]
theorem nY(x y:Int):wrap64 (x - wrap64 y)=wrap64 (x - y):=by
 obtain⟨k,ai⟩:=vl y;rw[ai,show x - (y - 18446744073709551616*k)=x - y - 18446744073709551616*(-k) by omega,q4]
section
attribute [local go_sem ↓] gi gj
def Fits(n:Int):Prop:=-9223372036854775808<=n/\n<=9223372036854775807
theorem oC(n:Int):Fits (wrap64 n):=by unfold Fits wrap64;omega
theorem mz(b:Bool):Fits (ff b):=by cases b<;>(unfold Fits ff;decide)
def VE.fit:VE->Prop
 | .num n=>Fits n
 | .gT _=>True
 | .loc _=>True
 | .iz _=>True
 | .un _ x=>x.fit
 | .bin _ x y=>x.fit/\y.fit
theorem sk(a b:Int)(aW:Fits a):Fits (a.tmod b):=by
 have c:=Int.natAbs_tmod a b;have hle:a.natAbs % b.natAbs<=a.natAbs:=Nat.mod_le _ _;rw[<-c] at hle;unfold Fits at *;rcases Int.lt_trichotomy a 0 with h|h|h
 .have aD:=Int.tmod_nonneg b (show 0<=-a by omega);rw[Int.neg_tmod] at aD;generalize a.tmod b=r at *;omega
 .subst h;simp
 .have aD:=Int.tmod_nonneg b (show 0<=a by omega);generalize a.tmod b=r at *;omega
theorem ih:Fits 0:=by unfold Fits;decide
theorem DR:Fits 1:=by unfold Fits;decide
theorem vT(op a b:Int)(aW:Fits a):Fits (arith op a b).1:=by
 unfold arith
 repeat' split
 all_goals first|exact oC _|exact mz _|exact sk _ _ aW|exact ih
theorem rW(aK:∀x∈g,Fits x)(k:Nat):Fits (g.getD k 0):=by
 rw[List.getD_eq_getElem?_getD]
 cases h:g[k]? with
 | none=>exact ih
 | some v=>exact aK v (Le h)
theorem sU{g l:List Int}(aK:∀x∈g,Fits x)(hl:∀x∈l,Fits x):∀e:VE,e.fit->Fits (ev g l e).1
 | .num _,h=>h
 | .gT _,_=>ih
 | .loc _,_=>rW hl _
 | .iz _,_=>rW aK _
 | .un op x,_=>by
  rw[ev]
  repeat' split
  all_goals first|exact ih|exact oC _|exact mz _
 | .bin op x y,h=>by
  rw[ev]
  repeat' split
  all_goals first|exact ih|exact DR|exact mz _|exact vT _ _ _ (sU aK hl x h.1)
theorem FG(a b:Int)(aW:Fits a):wrap64 (a - wrap64 (wrap64 (a.tdiv b)*b))=a.tmod b:=by
 rw[oL,nY,show a - a.tdiv b*b=a.tmod b by have:=Int.tdiv_mul_add_tmod a b;omega];exact IntWalk.wrap64_in _ (sk a b aW)
structure n7(g l:List Int)(e:VE):Prop where
 fg:∀x∈g,Fits x
 fl:∀x∈l,Fits x
 fe:e.fit
def iQ(e:VE):Prop:=∀(w:World) (G L:LP) (ng nl cg cl:Nat) (g l:List Int) (c0 c1 c2 c3:Value),lY w G L ng nl g l e [c0,c1,c2,c3]->n7 g l e->
 Calls prog 43 #[.agg #[c0,c1,c2,c3],.slice G ng cg,.slice L nl cl] w (fS w (ev g l e))
theorem FD(n:Int):iQ (.num n):=by
 intro w G L ng nl cg cl g l c0 c1 c2 c3 h _;obtain⟨nm,A,c,T⟩:=h.rep;injection T with h0 T;injection T with ae T;injection T with aD T;injection T with aU T;subst h0 ae aD aU;clear h T;go_enter func43,ntmps43;go_wp2
 go_ret2
 exact vy
theorem x9(e:VE)(k:Int)(he:e=.loc k\/e=.iz k):iQ e:=by
 intro w G L ng nl cg cl g l c0 c1 c2 c3 h _;have a:=(Below.refl w.heap.size w).alloc (Lb _) (.cells #[c0,c1,c2,c3] 56);have bJ:=h.gs.cS a a.size;have y:=h.ls.cS a a.size;clear a;have cc:=h.ok;rcases he with rfl|rfl
 all_goals
  obtain⟨nm,A,c,T⟩:=h.rep;injection T with h0 T;injection T with ae T;injection T with aD T;injection T with aU T;subst h0 ae aD aU;clear h T;obtain⟨bw,ci⟩:=cc;obtain⟨j,rfl⟩:=Lg bw
 .obtain⟨b,o,x,rfl,O,hx,hc⟩:=y.int (show j<nl by omega);have bd:j<nl:=ab;have aR:=ad (show ev g l (.loc j)=(x,0) by simp[ev,List.getD_eq_getElem?_getD,hx]);clear hx bJ y;go_enter func43,ntmps43;go_wp2
  go_ret2
  exact fS.mk' aR.o ((Below.refl _ _).alloc (Lb _) _)
 .obtain⟨b,o,x,rfl,O,hx,hc⟩:=bJ.int (show j<ng by omega);have bd:j<ng:=ab;have aR:=ad (show ev g l (.iz j)=(x,0) by simp[ev,List.getD_eq_getElem?_getD,hx]);clear hx bJ y;go_enter func43,ntmps43;go_wp2
  go_ret2
  exact fS.mk' aR.o ((Below.refl _ _).alloc (Lb _) _)
namespace Bu
theorem AM(h:p:=by
 have b0:=ad (show n7 g l x from ⟨i.fg,i.fl,i.fe⟩);obtain⟨ct,bq⟩:=aM Q aG;clear h hx Q i;have b9:(op == 1)=false:=by simp;omega
 have g2:(op == 18)=false:=by simp;omega
 have cI:(op == 19)=false:=by simp;omega
 clear aG;have f:=(Below.refl w.heap.size w).alloc (Lb _) (.cells #[.int .i64 op,.int .i64 n,.string nm,.slice (some ⟨b,o,none⟩) 1 c] 56);have a0:(w.alloc (.cells #[.int .i64 op,.int .i64 n,.string nm,.slice (some ⟨b,o,none⟩) 1 c] 56)).cell? ⟨w.heap.size,0,none⟩=some (.int .i64 op):=by simp[go_sem]
 have a3:(w.alloc (.cells #[.int .i64 op,.int .i64 n,.string nm,.slice (some ⟨b,o,none⟩) 1 c] 56)).cell? ⟨w.heap.size,3,none⟩=some (.slice (some ⟨b,o,none⟩) 1 c):=by simp[go_sem]
 have bv:(w.alloc (.cells #[.int .i64 op,.int .i64 n,.string nm,.slice (some ⟨b,o,none⟩) 1 c] 56)).heap.size=w.heap.size+1:=by simp
 have HA:=bG a0 a3 bv f;clear a0 a3 bv f;go_enter func43,ntmps43;go_wp2_with(fail);refine(ct.o _ G L ng nl cg cl g l bs Z bu E (ax.on HA.2.2.2) b0.o).mono ?_;rintro r aP ⟨rfl,bL⟩;obtain⟨a0,a3,bv,f⟩:=HA.o;have cE:=(bL.cell (p:=⟨w.heap.size,0,none⟩) (by simp only[];omega)).trans a0;have J:=f.trans (bL.mono f.size);have m:=ad J;clear HA a0 a3 bv f bL ax ct J;have a8:=ad (show ev g l (.un op x)=if (ev g l x).2≠0 then (0,(ev g l x).2) else if op=3 then (wrap64 (-(ev g l x).1),0) else (ff ((ev g l x).1 == 0),0) from rfl);clear b0;generalize ev g l x=r1 at *;obtain⟨v1,f1⟩:=r1;by_cases N:f1=0
 case neg=>
  have q1:(f1 != 0)=true:=by simpa using N
  have a7:=ad (show ev g l (.un op x)=(0,f1) by rw[a8.o];simp[N]);clear N;go_wp2
  go_ret2
  exact fS.mk' a7.o m.o
 have q1:(f1 != 0)=false:=by simpa using N
 rcases bq.o with aU|a1
 .have a7:=ad (show ev g l (.un op x)=(wrap64 (-v1),0) by rw[a8.o];simp[N,aU]);subst aU;clear N;go_wp2
  go_ret2
  exact fS.mk' a7.o m.o
 .have a7:=ad (show ev g l (.un op x)=(ff (v1 == 0),0) by rw[a8.o];simp[N,a1]);subst a1;clear N;go_wp2_with(fail);refine(hZ _ _).mono ?_;rintro e ac ⟨rfl,rfl⟩;go_wp2
  go_ret2
  exact fS.mk' a7.o m.o
 ):p:=h
end Bu
open Bu in
theorem HG(op:Int)(x:VE)(Q:iQ x):iQ (.un op x):=by
 intro w G L ng nl cg cl g l c0 c1 c2 c3 h i;exact AL
namespace Bv
theorem AS(h:p:=by
 have split:(op == 16)=true/\(v1 == 0)=false/\(op == 17)=false\/(op == 16)=false/\(op == 17)=true/\(v1 != 0)=false\/(op == 16)=false/\(op == 17)=false:=by
  exact Gp
 clear aW bl a8;have bB:=ad split;clear split;have second:∀(P:Prop),P->P:=λ_ h=>h;clear second;rcases bB.o with⟨R,bF,aK⟩|⟨R,bF,aK⟩|⟨R,bF⟩
 all_goals
  go_wp2_with(fail);refine(t.o _ G L ng nl cg cl g l cu cr br aa (j.on m.o) b0.2).mono ?_;rintro r aV ⟨rfl,a9⟩;have hq:=(a9.cell (p:=⟨w.heap.size,0,none⟩) aw).trans cE;have cj:=ad (m.trans (a9.mono m.size));clear a9 m cE aZ d4 d5 d6 d7 j t aw;generalize ev g l y=gG at *;obtain⟨v2,f2⟩:=gG;by_cases ay:f2=0
  case neg=>
   have cw:(f2 != 0)=true:=by simpa using ay
   have bw:=ad (show ev g l (.bin op x y)=(0,f2) by rw[bX.o];simp[ay]);clear ay;go_wp2
   go_ret2
   exact fS.mk' bw.o cj.o
  have cw:(f2 != 0)=false:=by simpa using ay
  have bw:=ad (show ev g l (.bin op x y)=if op=16\/op=17 then (ff (v2 != 0),0) else arith op v1 v2 by rw[bX.o];simp[ay]);clear ay bX bB
  try clear aK
  first
  | (have F:=ad (show ev g l (.bin op x y)=(ff (v2 != 0),0) by rw[bw.o,if_pos (by first|exact .inl (by simpa using R)|exact .inr (by simpa using bF))]);have hc:op=16\/op=17:=(by first|exact .inl (by simpa using R)|exact .inr (by simpa using bF));clear R bF bw b9 g2 cI cL fc;rcases hc with rfl|rfl;all_goals
     go_wp2_with(fail);refine(hZ _ _).mono ?_;rintro e ac ⟨rfl,rfl⟩;go_wp2
     go_ret2
     exact fS.mk' F.o cj.o)
  | (have a6:op≠16/\op≠17:=⟨by simpa using R,by simpa using bF⟩;have F:=ad (show ev g l (.bin op x y)=arith op v1 v2 by rw[bw.o,if_neg ab]);have hc:op=5\/op=6\/op=7\/op=8\/op=9\/op=10\/op=11\/op=12\/op=13\/op=14\/op=15:=(aC bq.o);clear R bF bw b9 g2 cI cL fc a6 bq;by_cases h0:v2=0
     .subst h0;clear ch;rcases hc with rfl|rfl|rfl|rfl|rfl|rfl|rfl|rfl|rfl|rfl|rfl
      all_goals
       go_wp2_with(fail)
       try (refine(hZ _ _).mono ?_;rintro e ac ⟨rfl,rfl⟩;go_wp2)
       go_ret2
       first|exact fS.mk' F.o cj.o|exact fS.mk' (F.trans (by first|(simp[arith];done)|(simp[arith];decide +kernel))) cj.o
     .have cO:(v2 == 0)=false:=by simpa using h0
      have bc:=ad h0;clear h0;rcases hc with rfl|rfl|rfl|rfl|rfl|rfl|rfl|rfl|rfl|rfl|rfl
      case inr.inl=>
       go_wp2_with(fail);refine(m5 _ _ bc.o _).mono ?_;rintro e ac ⟨rfl,rfl⟩;go_wp2
       go_ret2
       exact fS.mk' (F.trans (by simp[arith,bc.o])) cj.o
      case inr.inr.inl=>
       go_wp2_with(fail);refine(m5 _ _ bc.o _).mono ?_;rintro e ac ⟨rfl,rfl⟩;go_wp2
       go_ret2
       exact fS.mk' (F.trans (by simp[arith,bc.o,FG _ _ ch.o])) cj.o
      all_goals
       clear cO;go_wp2_with(fail)
       try (refine(hZ _ _).mono ?_;rintro e ac ⟨rfl,rfl⟩;go_wp2)
       go_ret2
       exact fS.mk' F.o cj.o)
 ):p:=h
theorem Az(h:p:=by
 by_cases N:f1=0
 case neg=>
  have q1:(f1 != 0)=true:=by simpa using N
  have a7:=ad (show ev g l (.bin op x y)=(0,f1) by rw[a8.o];simp[N]);clear N;go_wp2
  go_ret2
  exact fS.mk' a7.o m.o
 have q1:(f1 != 0)=false:=by simpa using N
 have a1:=ad N;clear N;by_cases aW:op=16/\v1=0
 .obtain⟨rfl,rfl⟩:=aW;have a7:=ad (show ev g l (.bin 16 x y)=(0,0) by rw[a8.o];simp[a1.o]);go_wp2
  go_ret2
  exact fS.mk' a7.o m.o
 by_cases bl:op=17/\v1≠0
 .obtain⟨rfl,bD⟩:=bl;have cp:(v1 != 0)=true:=by simpa using bD
  have a7:=ad (show ev g l (.bin 17 x y)=(1,0) by rw[a8.o];simp[a1.o,bD]);clear bD;go_wp2
  go_ret2
  exact fS.mk' a7.o m.o
 exact AR
 ):p:=h
theorem As(h:p:=by
 have b0:=ah (show n7 g l x from ⟨i.fg,i.fl,i.fe.1⟩) (show n7 g l y from ⟨i.fg,i.fl,i.fe.2⟩);have ch:=ad (sU i.fg i.fl x i.fe.1);obtain⟨ct,t,bq⟩:=eG k s aG;clear h hx a4 k s i;have b9:(op == 1)=false:=by simp;omega
 have g2:(op == 18)=false:=by simp;omega
 have cI:(op == 19)=false:=by simp;omega
 have cL:(op == 3)=false:=by simp;omega
 have fc:(op == 4)=false:=by simp;omega
 clear aG;have f:=(Below.refl w.heap.size w).alloc (Lb _) (.cells #[.int .i64 op,.int .i64 n,.string nm,.slice (some ⟨b,o,none⟩) 2 c] 56);have a0:(w.alloc (.cells #[.int .i64 op,.int .i64 n,.string nm,.slice (some ⟨b,o,none⟩) 2 c] 56)).cell? ⟨w.heap.size,0,none⟩=some (.int .i64 op):=by simp[go_sem]
 have a3:(w.alloc (.cells #[.int .i64 op,.int .i64 n,.string nm,.slice (some ⟨b,o,none⟩) 2 c] 56)).cell? ⟨w.heap.size,3,none⟩=some (.slice (some ⟨b,o,none⟩) 2 c):=by simp[go_sem]
 have bv:(w.alloc (.cells #[.int .i64 op,.int .i64 n,.string nm,.slice (some ⟨b,o,none⟩) 2 c] 56)).heap.size=w.heap.size+1:=by simp
 have HA:=bG a0 a3 bv f;clear a0 a3 bv f;go_enter func43,ntmps43;go_wp2_with(fail);refine(ct.o _ G L ng nl cg cl g l bs Z bu E (ax.on HA.2.2.2) b0.1).mono ?_;rintro r aP ⟨rfl,bL⟩;obtain⟨a0,a3,bv,f⟩:=HA.o;have cE:=(bL.cell (p:=⟨w.heap.size,0,none⟩) (by simp only[];omega)).trans a0;have aZ:=(bL.cell (p:=⟨w.heap.size,3,none⟩) (by simp only[];omega)).trans a3;have J:=f.trans (bL.mono f.size);have d4:=(J.cell (p:=⟨b,o+4,none⟩) O).trans cF;have d5:=(J.cell (p:=⟨b,o+5,none⟩) O).trans cN;have d6:=(J.cell (p:=⟨b,o+6,none⟩) O).trans bH;have d7:=(J.cell (p:=⟨b,o+7,none⟩) O).trans e7;have aw:w.heap.size<aP.heap.size:=by have:=bL.size;omega
 have m:=ad J;clear HA a0 a3 bv f bL ax ct J e0 e1 e2 e3 cF cN bH e7;exact Ay
 ):p:=h
end Bv
open Bv in
theorem FC(op:Int)(x y:VE)(k:iQ x)(s:iQ y):iQ (.bin op x y):=by
 intro w G L ng nl cg cl g l c0 c1 c2 c3 h i;exact Ar
theorem nN:∀e:VE,iQ e
 | .num n=>FD n
 | .gT _=>λ_ _ _ _ _ _ _ _ _ _ _ _ _ h _=>h.ok.elim
 | .loc k=>x9 _ k (.inl rfl)
 | .iz k=>x9 _ k (.inr rfl)
 | .un op x=>HG op x (nN x)
 | .bin op x y=>FC op x y (nN x) (nN y)
end
def idx(ms:Int)(r:Int×Int):Int×Int:=if r.2≠0 then (0,r.2) else if r.1<0\/ms<=r.1 then (0,2) else (r.1,0)
structure zs(w:World)(MA:LP)(mn:Nat)(X:List bF)(G L:LP)(ng nl:Nat)(g l:List Int)(e:VE)(i:Nat)(m:bF)(b o:Nat)(c0 c1 c2 c3:Value):Prop where
 ev:lY w G L ng nl g l e [c0,c1,c2,c3]
 ms:cK (EF hy) 3 w w.heap.size MA mn X
 i1:i<mn
 hm:X[i]?=some m
 bl:b<w.heap.size
 e0:w.cell? ⟨b,o,none⟩=some c0
 e1:w.cell? ⟨b,o+1,none⟩=some c1
 e2:w.cell? ⟨b,o+2,none⟩=some c2
 e3:w.cell? ⟨b,o+3,none⟩=some c3
theorem cK.Jw{l:List bF}(h:cK (EF hy) 3 w B A n l){k:Nat}(ai:k<n):
  ∃b o m,A=some ⟨b,o,none⟩/\b<B/\l[k]?=some m/\w.cell? ⟨b,o+k*3,none⟩=some (.string m.name)/\w.cell? ⟨b,o+k*3+1,none⟩=some (.bool m.re)/\w.cell? ⟨b,o+k*3+2,none⟩=some (.int .i64 m.size):=by
 obtain⟨b,o,x,bp,O,hx,_,hc⟩:=h.IB ai;exact⟨b,o,x,bp,O,hx,hc 0 _ rfl,hc 1 _ rfl,hc 2 _ rfl⟩
namespace Bw
theorem Ai(h:p:=by
 have q1:decide ((i:Int)<0)=false:=by simp
 have cp:decide (i>=mn)=false:=by simp;omega
 have a:decide (mn<=i)=false:=by simp;omega
 have cw:(0:Int)<=(i:Int):=ab;have cO:(i:Int)<(mn:Int):=ab;have b4:=ad (au.on (Fr.ext aE));clear hm aR au F;go_enter func77,ntmps77;go_wp2_with(fail);have cE:=(aE.cell (j:=o) aO (λh=>h)).trans e0;have cd:=(aE.cell (j:=o+1) aO (λh=>h)).trans e1;generalize w.alloc (.cells #[.bool false,.int .i64 i,.slice (some ⟨b,o,none⟩) 1 pc] 58)=W at *;refine(zq e W G L ng nl cg cl g l _ _ _ _ b4.o).mono ?_;exact Gc
 ):p:=h
end Bw
open Bw in
theorem yp(w:World)(MA:LP)(mn mc:Nat)(X:List bF)(G L:LP)(ng nl cg cl:Nat)(g l:List Int)(e:VE)(i:Nat)(m:bF)(b o pc:Nat)(c0 c1 c2 c3:Value)
  (h:zs w MA mn X G L ng nl g l e i m b o c0 c1 c2 c3) :
  Calls prog 77 #[.agg #[.bool false,.int .i64 i,.slice (some ⟨b,o,none⟩) 1 pc],.slice MA mn mc,.slice G ng cg,.slice L nl cl] w (fS w (idx m.size (ev g l e))):=by
 exact Ah
namespace Bx
theorem Ai(h:p:=by
 have cw:(0:Int)<=(i:Int):=ab;have cO:(i:Int)<(mn:Int):=ab;have b4:=ad (au.on (Fr.ext aE));have c:=ad a;clear hm aR au F a;go_enter func82,ntmps82;go_wp2_with(fail);have cE:=(aE.cell (j:=o) aO (λh=>h)).trans e0;have cd:=(aE.cell (j:=o+1) aO (λh=>h)).trans e1;generalize w.alloc (.cells #[.bool false,.int .i64 i,.slice (some ⟨b,o,none⟩) 1 pc] 58)=W at *;refine(nN e W G L ng nl cg cl g l _ _ _ _ b4.o c.o).mono ?_;exact Gc
 ):p:=h
end Bx
open Bx in
theorem tj(w:World)(MA:LP)(mn mc:Nat)(X:List bF)(G L:LP)(ng nl cg cl:Nat)(g l:List Int)(e:VE)(i:Nat)(m:bF)(b o pc:Nat)(c0 c1 c2 c3:Value)
  (h:zs w MA mn X G L ng nl g l e i m b o c0 c1 c2 c3) (a:n7 g l e) :
  Calls prog 82 #[.agg #[.bool false,.int .i64 i,.slice (some ⟨b,o,none⟩) 1 pc],.slice MA mn mc,.slice G ng cg,.slice L nl cl] w (fS w (idx m.size (ev g l e))):=by
 exact Ah
theorem vr(w:World)(i:Int)(A:LP)(pc:Nat)(b:Bool)(m g l:Value):Calls prog 77 #[.agg #[.bool b,.int .i64 i,.slice A 0 pc],m,g,l] w (fS w (0,0)):=by
 go_enter func77,ntmps77;go_wp2
 go_ret2
 exact vy
theorem ru(w:World)(i:Int)(A:LP)(pc:Nat)(b:Bool)(m g l:Value):Calls prog 82 #[.agg #[.bool b,.int .i64 i,.slice A 0 pc],m,g,l] w (fS w (0,0)):=by
 go_enter func82,ntmps82;go_wp2
 go_ret2
 exact vy
structure fT(s:Nat)(w ac:World):Prop where
 os:ac.os=w.os
 tape:ac.tape=w.tape
 output:ac.output=w.output
 size:w.heap.size<=ac.heap.size
 block:∀k,k<w.heap.size->k≠s->ac.heap[k]?=w.heap[k]?
theorem fT.refl(s:Nat)(w:World):fT s w w:=⟨rfl,rfl,rfl,Lb _,λ_ _ _=>rfl⟩
theorem fT.trans{s:Nat}{a b c:World}(h:fT s a b)(k:fT s b c):fT s a c:=
 ⟨k.os.trans h.os,k.tape.trans h.tape,k.output.trans h.output,Ls h.size k.size,λi ak hn=>(k.block i (Lc ak h.size) hn).trans (h.block i ak hn)⟩
theorem fT.of(h:Below a.heap.size a b):fT s a b:=⟨h.os,h.tape,h.output,h.size,λk ai _=>h.block k ai⟩
theorem fT.below(h:fT s a b)(hs:s<=a.heap.size):Below s a b:=⟨h.os,h.tape,h.output,h.size,λk ai=>h.block k ab ab⟩
theorem fT.setCell{s:Nat}{a b:World}(h:fT s a b)(j:Nat)(v:Value):fT s a (b.setCell ⟨s,j,none⟩ v):=by
 refine⟨h.os,h.tape,h.output,by simpa using h.size,λk ai hn=>?_⟩;rw[Below.heap_setCell _ _ _ _ hn];exact h.block k ai hn
theorem fT.drew{s:Nat}{a b:World}(h:fT s a b):fT s a b.drew:=⟨h.os,h.tape,h.output,h.size,h.block⟩
theorem fT.cell{s:Nat}{a b:World}(h:fT s a b){k j:Nat}(ai:k<a.heap.size)(hn:k≠s):b.cell? ⟨k,j,none⟩=a.cell? ⟨k,j,none⟩:=World.cell?_of_block (h.block k ai hn)
structure cc(w:World)(s:Nat)(A:LP)(n c:Nat)(l:List Int):Prop where
 lt:s<w.heap.size
 c0:w.cell? ⟨s,0,none⟩=some (.slice A n c)
 c1:∃i:Nat,i<=n/\w.cell? ⟨s,1,none⟩=some (.int .i64 i)
 fz:w.frozen? ⟨s,1,none⟩=false
 ls:cK (EF b5) 1 w s A n l
 hn:n<=1000
theorem cc.on(h:cc w s A n c l)(O:Below w.heap.size w ac):cc ac s A n c l:=by
 have aw:=h.lt;refine⟨Lc h.lt O.size,?_,?_,?_,h.ls.gf (O.mono ab),h.hn⟩
 .exact(O.cell (p:=⟨s,0,none⟩) aw).trans h.c0
 .obtain⟨i,ak,hc⟩:=h.c1;exact⟨i,ak,(O.cell (p:=⟨s,1,none⟩) aw).trans hc⟩
 .exact(O.frozen (p:=⟨s,1,none⟩) aw).trans h.fz
def xo(w:World)(s:Nat)(A:LP)(n c:Nat)(l:List Int)(m:Int)(e:Ending)(ac:World):Prop:=
 ∃k,e=.returned (.int .i64 k)/\0<=k/\k<m/\cc ac s A n c l/\fT s w ac
theorem aX(w:World)(s:Nat)(A:LP)(n c:Nat)(l:List Int)(m:Int)(h:cc w s A n c l)(hm:0<m)(ay:m<=4611686018427387904) :
  Calls prog 95 #[.pointer (some ⟨s,0,none⟩),.int .i64 m] w (xo w s A n c l m):=by
 have H:=ad h;obtain⟨aw,u,⟨i,ak,b9⟩,e,y,hn⟩:=h;by_cases ax:i<n
 case neg=>
  have q:decide ((i:Int)>=n)=true:=by simp;omega
  clear y;go_enter func95,ntmps95;go_wp2;go_quiet (fail)
  go_wp2;go_ret;exact⟨0,rfl,ab,hm,H.on (dA (Below.refl _ _) _),.of (dA (Below.refl _ _) _)⟩
 have q:decide ((i:Int)>=n)=false:=by simp;omega
 obtain⟨b,o,x,rfl,O,hx,hc⟩:=y.int ax;clear hx y;go_enter func95,ntmps95;go_wp2;go_quiet (fail)
 go_wp2;obtain⟨h,aE,f,g,aD⟩:cc ((w.drewN nq).setCell ⟨s,1,none⟩ (.int .i64 ((i:Int)+1))) s (some ⟨b,o,none⟩) n c l/\fT s w ((w.drewN nq).setCell ⟨s,1,none⟩ (.int .i64 ((i:Int)+1)))/\
   ((w.drewN nq).setCell ⟨s,1,none⟩ (.int .i64 ((i:Int)+1))).cell? ⟨s,0,none⟩=some (.slice (some ⟨b,o,none⟩) n c)/\((w.drewN nq).setCell ⟨s,1,none⟩ (.int .i64 ((i:Int)+1))).cell? ⟨s,1,none⟩=some (.int .i64 ((i:Int)+1))/\
   ((w.drewN nq).setCell ⟨s,1,none⟩ (.int .i64 ((i:Int)+1))).cell? ⟨b,o+i,none⟩=some (.int .i64 x):=by
  have d:=H.on (dA (Below.refl _ _) nq);have aE:fT s w (w.drewN nq):=.of (dA (Below.refl _ _) nq);generalize w.drewN nq=v at *;have e0:(v.setCell ⟨s,1,none⟩ (.int .i64 ((i:Int)+1))).cell? ⟨s,0,none⟩=some (.slice (some ⟨b,o,none⟩) n c):=(World.cell?_setCell_other _ _ _ _ (by simp)).trans d.c0;have e1:(v.setCell ⟨s,1,none⟩ (.int .i64 ((i:Int)+1))).cell? ⟨s,1,none⟩=some (.int .i64 ((i:Int)+1)):=by
   obtain⟨k,_,ai⟩:=d.c1;simp[go_sem,ai]
  have b4:Below s v (v.setCell ⟨s,1,none⟩ (.int .i64 ((i:Int)+1))):=(Below.refl s v).setCell (p:=⟨s,1,none⟩) (Lb s) _;refine⟨⟨by simpa using d.lt,e0,⟨i+1,ab,by rw[e1];simp⟩,(World.frozen?_setCell _ _ _ _).trans d.fz,d.ls.gf b4,d.hn⟩,aE.setCell _ _,e0,e1,?_⟩;rw[b4.cell (by exact O),<-hc];exact aE.cell ab ab
 have R:IntKind.i64.wrap ((i:Int)+1 - 1)=i:=by rw[show (i:Int)+1 - 1=i by omega];exact IntWalk.i64_in _ ab
 have cr:=ah h aE;clear h aE H u b9 hc e;generalize (w.drewN nq).setCell ⟨s,1,none⟩ (.int .i64 ((i:Int)+1))=v at *;go_quiet (first|(go_at_call 19;refine Calls.quiet_of_same ((mB x m hm ay _).mono λ_ _ h=>⟨h.1,h.2.symm⟩)))
 go_wp2;go_ret;have aQ:=tD (x:=x) (n:=m) hm;exact⟨_,rfl,aQ.1,aQ.2,cr.1.on (dA (Below.refl _ _) _),cr.2.trans (.of (dA (Below.refl _ _) _))⟩
theorem cc.H3{g:Nat}(h:cc w s A n c l)(O:Below g w ac)(hs:s<g):cc ac s A n c l:=by
 have aw:=h.lt;refine⟨Lc h.lt O.size,?_,?_,?_,h.ls.gf (O.mono ab),h.hn⟩
 .exact(O.cell (p:=⟨s,0,none⟩) hs).trans h.c0
 .obtain⟨i,ak,hc⟩:=h.c1;exact⟨i,ak,(O.cell (p:=⟨s,1,none⟩) hs).trans hc⟩
 .exact(O.frozen (p:=⟨s,1,none⟩) hs).trans h.fz
theorem fT.eI{aV v:World}(h:fT s w aV)(O:Below w.heap.size aV v):fT s w v:=
 ⟨O.os.trans h.os,O.tape.trans h.tape,O.output.trans h.output,Ls h.size O.size,λk ai hn=>(O.block k ai).trans (h.block k ai hn)⟩
theorem fT.frozen{s:Nat}{a b:World}(h:fT s a b){k j:Nat}(ai:k<a.heap.size)(hn:k≠s):b.frozen? ⟨k,j,none⟩=a.frozen? ⟨k,j,none⟩:=by
 simp only[World.frozen?,h.block k ai hn]
structure ss(w:World)(s b:Nat):Prop where
 lt:b<w.heap.size
 ne:b≠s
 cs:∃F s1 s2,w.cell? ⟨b,0,none⟩=some (.string F)/\w.cell? ⟨b,1,none⟩=some (.string s1)/\w.cell? ⟨b,2,none⟩=some (.string s2)
theorem ss.on{b:Nat}(h:ss w s b)(he:fT s w ac):ss ac s b:=by
 obtain⟨hl,hn,F,s1,s2,h0,ae,aD⟩:=h;exact⟨Lc hl he.size,hn,F,s1,s2,(he.cell hl hn).trans h0,(he.cell hl hn).trans ae,(he.cell hl hn).trans aD⟩
def VE.made:VE->Prop
 | .num n=>0<=n/\n<4611686018427387904
 | .gT _=>True
 | .loc _=>False
 | .iz _=>False
 | .un op x=>(op=3\/op=4)/\x.made
 | .bin op x y=>(5<=op/\op<=17)/\x.made/\y.made
theorem qy(w:World)(s:Nat)(A:LP)(n c:Nat)(l:List Int)(h:cc w s A n c l) :
  Calls prog 152 #[.pointer (some ⟨s,0,none⟩)] w (xo w s A n c l 4611686018427387904):=by
 have H:=ad h;clear h;go_enter func152,ntmps152;go_wp2_with(fail);refine(aX _ s A n c l 8 H.o ab ab).mono ?_;rintro e aP ⟨k,rfl,bw,ci,ae,ar⟩;have H1:=ah ae ar;clear ae ar;by_cases ai:k=1
 .have q:(k == 1)=true:=by simpa using ai
  go_wp2_with(fail);refine(aX _ s A n c l 4611686018427387904 H1.1 ab ab).mono ?_;rintro e aV ⟨bJ,rfl,co,er,aD,bU⟩;have bt:=ah aD bU;clear aD bU;go_wp2;go_ret;exact⟨bJ,rfl,co,er,bt.1,H1.2.trans bt.2⟩
 .have q:(k == 1)=false:=by simpa using ai
  go_wp2_with(fail);refine(aX _ s A n c l 4 H1.1 ab ab).mono ?_;rintro e aV ⟨bJ,rfl,co,er,aD,bU⟩;have bt:=ah aD bU;clear aD bU;go_wp2;go_ret;exact⟨bJ,rfl,co,ab,bt.1,H1.2.trans bt.2⟩
section
attribute [local go_sem ↓] gi gj
def II(X:List bF)(T:List dn)(m th:Int)(i:Nat):Int:=if (own X)[i]?=some m/\(js T i).owner=th+1/\0<=th then (js T i).depth else 0
def GN(X:List bF)(T:List dn)(m th:Int):Nat->Int
 | 0=>0
 | k+1=>GN X T m th k+II X T m th k
def depth(X:List bF)(T:List dn)(m th:Int):Int:=GN X T m th (own X).length
end
section
attribute [local go_sem ↓] gi gj
end
end Go.Proofs.YtflecliffjbleaaGreat

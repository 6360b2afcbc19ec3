/- Part 3 of the proof. No condition of its own. -/
import Derived.Test.YtflecliffjbleaaGreatS02
namespace Go.Proofs.YtflecliffjbleaaGreat
open Go.RowKit Go.Proofs.Tryz
set_option maxRecDepth 1000000
set_option maxHeartbeats 25600000
set_option linter.unusedVariables false
variable{g:List Int}{cs:List Value}{B:Nat}{p:Prop}{x:VE}{ab w:World}
section
attribute [local go_sem ↓] gC gD
theorem kj(b:Bool)(w:World):Calls prog 150 #[.bool b] w λe ab=>e=.returned (.int .i64 (fy b))/\w=ab:=by
 cases b<;>(go_enter func150,ntmps150;go_wp2;go_ret;exact⟨rfl,rfl⟩)
theorem ih(b:Bool)(w:World):Calls prog 80 #[.bool b] w λe ab=>e=.returned (.int .i64 (fy b))/\w=ab:=by
 cases b<;>(go_enter func80,ntmps80;go_wp2;go_ret;exact⟨rfl,rfl⟩)
theorem oo(A:Mk)(n c:Nat)(l:List Int)(k:Int)(w:World)(h:cA (EF cd) 1 w w.heap.size A n l)(h0:0<=k)(ac:k<n) :
  Calls prog 149 #[.slice A n c,.int .i64 k] w λe ab=>e=.returned (.int .i64 (l.getD k.toNat 0))/\w=ab:=by
 obtain⟨j,rfl⟩:=LH h0;obtain⟨b,o,x,rfl,O,hx,hc⟩:=h.int (show j<n by omega);have bi:j<n:=ad;have aR:=ae (show l.getD (j:Int).toNat 0=x by rw[LZ,List.getD_eq_getElem?_getD,hx];rfl);clear hx h;go_enter func149,ntmps149;go_wp2;go_ret;exact⟨ret_int (by rw[aR.o]),rfl⟩
theorem m5(a b:Int)(O:b≠0)(w:World) :
  Calls prog 81 #[.int .i64 a,.int .i64 b] w λe ab=>e=.returned (.int .i64 (wrap64 (a.tdiv b)))/\w=ab:=by
 by_cases ac:b = -1
 .subst ac;go_enter func81,ntmps81;go_wp2;go_ret;exact⟨ret_int (by rw[Int.tdiv_neg,Int.tdiv_one]),rfl⟩
 .have ce:(b == -1)=false:=by simpa using ac
  have cT:(b == 0)=false:=by simpa using O
  go_enter func81,ntmps81;go_wp2;go_ret;exact⟨rfl,rfl⟩
def gp(w:World)(r:Int×Int)(e:Ending)(ab:World):Prop:=e=.returned (.tuple #[.int .i64 r.1,.int .i64 r.2])/\Below w.heap.size w ab
theorem gp.mk'{r:Int×Int}{a b:Int}(a9:r=(a,b))(O:Below w.heap.size w ab):gp w r (.returned (.tuple #[.int .i64 a,.int .i64 b])) ab:=by
 subst a9;exact⟨rfl,O⟩
theorem pT(op a b:Int)(h:5<=op/\op<=15)(w:World) :
  Calls prog 151 #[.int .i64 op,.int .i64 a,.int .i64 b] w (gp w (arith op a b)):=by
 by_cases hdiv:(op=6\/op=7)/\b=0
 .obtain⟨co,rfl⟩:=hdiv;rcases co with rfl|rfl
  all_goals
   go_enter func151,ntmps151;go_wp2
   go_ret2
   exact gp.mk' rfl (Below.refl _ _)
 .obtain rfl|rfl|rfl|rfl|rfl|rfl|rfl|rfl|rfl|rfl|rfl:op=5\/op=6\/op=7\/op=8\/op=9\/op=10\/op=11\/op=12\/op=13\/op=14\/op=15:=ad
  case inr.inl=>
   have O:b≠0:=λag=>hdiv ⟨.inl rfl,ag⟩;have cT:(b == 0)=false:=by simpa using O
   have HA:=ae (show arith 6 a b=(wrap64 (a.tdiv b),0) by unfold arith;simp[O]);clear hdiv h;go_enter func151,ntmps151;go_wp2
   go_ret2
   exact gp.mk' HA.o (Below.refl _ _)
  case inr.inr.inl=>
   have O:b≠0:=λag=>hdiv ⟨.inr rfl,ag⟩;have cT:(b == 0)=false:=by simpa using O
   have HA:=ae (show arith 7 a b=(a.tmod b,0) by unfold arith;simp[O]);clear hdiv h;go_enter func151,ntmps151;go_wp2
   go_ret2
   exact gp.mk' HA.o (Below.refl _ _)
  all_goals
   clear hdiv h;go_enter func151,ntmps151;go_wp2_with((go_at_call 150;refine(kj _ _).mono ?_;rintro e ab ⟨rfl,rfl⟩))
   go_ret2
   exact gp.mk' rfl (Below.refl _ _)
end
section
attribute [local go_sem ↓] gC gD
structure lZ(w:World)(G L:Mk)(ng nl:Nat)(g l:List Int)(e:VE)(cs:List Value):Prop where
 gs:cA (EF cd) 1 w w.heap.size G ng g
 ls:cA (EF cd) 1 w w.heap.size L nl l
 ok:e.ok ng nl
 rep:e.at_ w cs
theorem lZ.on{G L:Mk}{ng nl:Nat}{l:List Int}{e:VE}(h:lZ w G L ng nl g l e cs)(O:Below w.heap.size w ab):lZ ab G L ng nl g l e cs:=
 ⟨h.gs.cS O O.size,h.ls.cS O O.size,h.ok,VE.Jf h.rep O⟩
def jB(e:VE):Prop:=∀(w:World) (G L:Mk) (ng nl cg cl:Nat) (g l:List Int) (c0 c1 c2 c3:Value),lZ w G L ng nl g l e [c0,c1,c2,c3]->
 Calls prog 116 #[.agg #[.slice G ng cg,.slice L nl cl],.agg #[c0,c1,c2,c3]] w (gp w (ev g l e))
def jZ(e:VE):Prop:=∀(w:World) (G L:Mk) (ng nl cg cl:Nat) (g l:List Int) (c0 c1 c2 c3:Value),lZ w G L ng nl g l e [c0,c1,c2,c3]->
 Calls prog 137 #[.agg #[.slice G ng cg,.slice L nl cl],.agg #[c0,c1,c2,c3]] w (gp w (ev g l e))
def pE(e:VE):Prop:=∀(w:World) (G L:Mk) (ng nl cg cl:Nat) (g l:List Int) (c0 c1 c2 c3:Value),lZ w G L ng nl g l e [c0,c1,c2,c3]->
 Calls prog 138 #[.agg #[.slice G ng cg,.slice L nl cl],.agg #[c0,c1,c2,c3]] w (gp w (ev g l e))
theorem l6(a b:Obj):Below w.heap.size w ((w.alloc a).alloc b):=((Below.refl _ _).alloc (Lz _) _).alloc (by simp) _
theorem xb(n:Int):jZ (.num n):=by
 intro w G L ng nl cg cl g l c0 c1 c2 c3 h;obtain⟨nm,A,c,T⟩:=h.rep;injection T with h0 T;injection T with ac T;injection T with ax T;injection T with a1 T;subst h0 ac ax a1;clear h T;go_enter func137,ntmps137;go_wp2
 go_ret2
 exact gp.mk' rfl (l6 _ _)
namespace Cf
theorem BP(h:p:=by
 have u:=ae bP;clear az e0 e1 e2 e3 bP;have ak:∀V:World,Below W.heap.size W V->V.cell? ⟨w.heap.size,0,none⟩=some (.slice G ng cg)/\V.cell? ⟨w.heap.size,1,none⟩=some (.slice L nl cl)/\V.cell? ⟨w.heap.size+1,0,none⟩=some (.int .i64 op)/\V.cell? ⟨w.heap.size+1,3,none⟩=some (.slice (some ⟨b,o,none⟩) 1 c)/\
   V.cell? ⟨b,o,none⟩=some bU/\V.cell? ⟨b,o+1,none⟩=some Z/\V.cell? ⟨b,o+2,none⟩=some bm/\V.cell? ⟨b,o+3,none⟩=some E:=λV hV=>by
  have U:=u.o;have an:b<W.heap.size:=by have:=O;omega
  exact⟨(hV.cell (p:=⟨w.heap.size,0,none⟩) (by simp only[];omega)).trans a0,(hV.cell (p:=⟨w.heap.size,1,none⟩) (by simp only[];omega)).trans i,(hV.cell (p:=⟨w.heap.size+1,0,none⟩) (by simp only[];omega)).trans a8,(hV.cell (p:=⟨w.heap.size+1,3,none⟩) (by simp only[];omega)).trans q,
   (hV.cell (p:=⟨b,o,none⟩) an).trans d0,(hV.cell (p:=⟨b,o+1,none⟩) an).trans d1,(hV.cell (p:=⟨b,o+2,none⟩) an).trans d2,(hV.cell (p:=⟨b,o+3,none⟩) an).trans d3⟩
 have cK:=ae ak;clear ak a0 i a8 q d0 d1 d2 d3;go_region_held3 (λV=>V.cell? ⟨w.heap.size,0,none⟩=some (.slice G ng cg)/\V.cell? ⟨w.heap.size,1,none⟩=some (.slice L nl cl)/\V.cell? ⟨w.heap.size+1,0,none⟩=some (.int .i64 op)/\V.cell? ⟨w.heap.size+1,3,none⟩=some (.slice (some ⟨b,o,none⟩) 1 c)/\
   V.cell? ⟨b,o,none⟩=some bU/\V.cell? ⟨b,o+1,none⟩=some Z/\V.cell? ⟨b,o+2,none⟩=some bm/\V.cell? ⟨b,o+3,none⟩=some E)
  (first|exact cK.o _ (Below.refl _ _)|exact cK.o _ (Below.refl _ _).drew|exact cK.o _ bg)
  (first|(go_at_call 116;refine(cM.o _ G L ng nl cg cl g l bU Z bm E ?_).mono ?_;(exact bd.on (Below.refl _ _).drew);rintro r ab ⟨rfl,d⟩;have bg:Below W.heap.size W ab:=(Below.refl W.heap.size W).drew.trans d;clear d))
 have J:=(f.trans (bg.mono f.size))
 have bj:=ae (show ev g l (.un op x)=if (ev g l x).2≠0 then (0,(ev g l x).2) else if op=3 then (wrap64 (-(ev g l x).1),0) else (fy ((ev g l x).1 == 0),0) from rfl);generalize ev g l x=r1 at *;obtain⟨v1,f1⟩:=r1;clear cK cM bd;by_cases be:f1=0
 case neg=>
  have q1:(f1 != 0)=true:=by simpa using be
  have a7:=ae (show ev g l (.un op x)=(0,f1) by rw[bj.o];simp[be]);clear be;go_wp2
  go_ret2
  exact gp.mk' a7.o J
 have q1:(f1 != 0)=false:=by simpa using be
 rcases a5.o with a1|aU
 .have a7:=ae (show ev g l (.un op x)=(wrap64 (-v1),0) by rw[bj.o];simp[be,a1]);subst a1;clear be;go_wp2
  go_ret2
  exact gp.mk' a7.o J
 .have a7:=ae (show ev g l (.un op x)=(fy (v1 == 0),0) by rw[bj.o];simp[be,aU]);subst aU;clear be;go_wp2_with((go_at_call 150;refine(kj _ _).mono ?_;rintro e ab ⟨rfl,rfl⟩))
  go_ret2
  exact gp.mk' a7.o J
 ):p:=h
theorem Bq(h:p:=by
 obtain⟨cM,a5⟩:=aH ap co;clear h hx ap;have ce:(op == 1)=false:=by simp;omega
 have g2:(op == 18)=false:=by simp;omega
 have cN:(op == 19)=false:=by simp;omega
 clear co;go_enter func137,ntmps137;go_wp2;have f:=l6 (w:=w) (.cells #[.slice G ng cg,.slice L nl cl] 201) (.cells #[.int .i64 op,.int .i64 n,.string nm,.slice (some ⟨b,o,none⟩) 1 c] 56);have a0:((w.alloc (.cells #[.slice G ng cg,.slice L nl cl] 201)).alloc (.cells #[.int .i64 op,.int .i64 n,.string nm,.slice (some ⟨b,o,none⟩) 1 c] 56)).cell? ⟨w.heap.size,0,none⟩=some (.slice G ng cg):=by simp[go_sem]
 have i:((w.alloc (.cells #[.slice G ng cg,.slice L nl cl] 201)).alloc (.cells #[.int .i64 op,.int .i64 n,.string nm,.slice (some ⟨b,o,none⟩) 1 c] 56)).cell? ⟨w.heap.size,1,none⟩=some (.slice L nl cl):=by simp[go_sem]
 have a8:((w.alloc (.cells #[.slice G ng cg,.slice L nl cl] 201)).alloc (.cells #[.int .i64 op,.int .i64 n,.string nm,.slice (some ⟨b,o,none⟩) 1 c] 56)).cell? ⟨w.heap.size+1,0,none⟩=some (.int .i64 op):=by simp[go_sem]
 have q:((w.alloc (.cells #[.slice G ng cg,.slice L nl cl] 201)).alloc (.cells #[.int .i64 op,.int .i64 n,.string nm,.slice (some ⟨b,o,none⟩) 1 c] 56)).cell? ⟨w.heap.size+1,3,none⟩=some (.slice (some ⟨b,o,none⟩) 1 c):=by simp[go_sem]
 have bP:((w.alloc (.cells #[.slice G ng cg,.slice L nl cl] 201)).alloc (.cells #[.int .i64 op,.int .i64 n,.string nm,.slice (some ⟨b,o,none⟩) 1 c] 56)).heap.size=w.heap.size+2:=by simp
 generalize (w.alloc (.cells #[.slice G ng cg,.slice L nl cl] 201)).alloc (.cells #[.int .i64 op,.int .i64 n,.string nm,.slice (some ⟨b,o,none⟩) 1 c] 56)=W at *;have bd:=az.on f;exact BO
 ):p:=h
end Cf
open Cf in
theorem zx(op:Int)(x:VE)(ap:jB x):jZ (.un op x):=by
 intro w G L ng nl cg cl g l c0 c1 c2 c3 h;exact Bp
theorem qW(e:VE)(k:Int)(he:e=.loc k\/e=.iK k):jZ e:=by
 intro w G L ng nl cg cl g l c0 c1 c2 c3 h;have a:=l6 (w:=w) (.cells #[.slice G ng cg,.slice L nl cl] 201) (.cells #[c0,c1,c2,c3] 56);have bF:=h.gs.cS a a.size;have y:=h.ls.cS a a.size;clear a;have b8:=h.ok;rcases he with rfl|rfl
 all_goals
  obtain⟨nm,A,c,T⟩:=h.rep;injection T with h0 T;injection T with ac T;injection T with ax T;injection T with a1 T;subst h0 ac ax a1;clear h T;obtain⟨bm,b7⟩:=b8;go_enter func137,ntmps137;go_wp2_with(fail)
  first
  | refine(oo L nl cl l k _ y bm b7).mono ?_
  | refine(oo G ng cg g k _ bF bm b7).mono ?_
  rintro e ab ⟨rfl,rfl⟩;go_wp2
  go_ret2
  exact gp.mk' rfl (l6 _ _)
namespace Cg
theorem By(h:p:=by
 obtain⟨HA,a5⟩:=aH br bn;clear bj;have split:(op == 16)=true/\(v1 == 0)=false/\(op == 17)=false\/(op == 16)=false/\(op == 17)=true/\(v1 != 0)=false\/(op == 16)=false/\(op == 17)=false:=by
  exact Hb
 clear br bn;have bM:=ae split;clear split;rcases bM.o with⟨cU,cy,dv⟩|⟨cU,cy,dv⟩|⟨cU,cy⟩
 all_goals
  go_wp2;go_region_held3 (λV=>V.cell? ⟨w.heap.size,0,none⟩=some (.slice G ng cg)/\V.cell? ⟨w.heap.size,1,none⟩=some (.slice L nl cl)/\V.cell? ⟨w.heap.size+1,0,none⟩=some (.int .i64 op)/\V.cell? ⟨w.heap.size+1,3,none⟩=some (.slice (some ⟨b,o,none⟩) 2 c)/\V.cell? ⟨b,o,none⟩=some bU/\V.cell? ⟨b,o+1,none⟩=some Z/\V.cell? ⟨b,o+2,none⟩=some bm/\V.cell? ⟨b,o+3,none⟩=some E/\V.cell? ⟨b,o+4,none⟩=some b1/\V.cell? ⟨b,o+5,none⟩=some cn/\V.cell? ⟨b,o+6,none⟩=some cm/\V.cell? ⟨b,o+7,none⟩=some bv)
   (first|exact cK.o _ (Below.refl _ _)|exact cK.o _ (Below.refl _ _).drew|exact cK.o _ aD|exact cK.o _ bg|exact cK.o _ bg.drew)
   (first|(go_at_call 116;refine(t.o _ G L ng nl cg cl g l b1 cn cm bv ?_).mono ?_;(exact(P.on bg).on (Below.refl _ _).drew);rintro r b4 ⟨rfl,d⟩;have aD:Below W.heap.size W b4:=bg.drew.trans (d.mono bg.size);clear d))
  have J:=(f.trans (aD.mono f.size))
  generalize ev g l y=gR at *;obtain⟨v2,f2⟩:=gR;by_cases ay:f2=0
  case neg=>
   have da:(f2 != 0)=true:=by simpa using ay
   have cd:=ae (show ev g l (.bin op x y)=(0,f2) by rw[ba.o];simp[ay]);clear ay;go_wp2
   go_ret2
   exact gp.mk' cd.o J
  have da:(f2 != 0)=false:=by simpa using ay
  have cd:=ae (show ev g l (.bin op x y)=if op=16\/op=17 then (fy (v2 != 0),0) else arith op v1 v2 by rw[ba.o];simp[ay]);clear ay ba
  first
  | (have F:=ae (show ev g l (.bin op x y)=(fy (v2 != 0),0) by rw[cd.o,if_pos (by first|exact .inl (by simpa using cU)|exact .inr (by simpa using cy))]);go_wp2_with((go_at_call 150;refine(kj _ _).mono ?_;rintro e ab ⟨rfl,rfl⟩));go_ret2;exact gp.mk' F.o J)
  | (have bl:op≠16/\op≠17:=⟨by simpa using cU,by simpa using cy⟩;have F:=ae (show ev g l (.bin op x y)=arith op v1 v2 by rw[cd.o,if_neg ad]);go_wp2_with(fail);refine(pT op v1 v2 ad _).mono ?_;rintro e cI ⟨rfl,bu⟩;go_wp2;go_ret2;exact gp.mk' (by rw[F.o]) (J.trans (bu.mono J.size)))
 ):p:=h
theorem A4(h:p:=by
 clear cM bd;by_cases be:f1=0
 case neg=>
  have q1:(f1 != 0)=true:=by simpa using be
  have a7:=ae (show ev g l (.bin op x y)=(0,f1) by rw[bj.o];simp[be]);clear be;go_wp2
  go_ret2
  exact gp.mk' a7.o J
 have q1:(f1 != 0)=false:=by simpa using be
 have aa:=ae be;clear be;by_cases br:op=16/\v1=0
 .obtain⟨rfl,rfl⟩:=br;have a7:=ae (show ev g l (.bin 16 x y)=(0,0) by rw[bj.o];simp[aa.o]);go_wp2
  go_ret2
  exact gp.mk' a7.o J
 by_cases bn:op=17/\v1≠0
 .obtain⟨rfl,bG⟩:=bn;have cO:(v1 != 0)=true:=by simpa using bG
  have a7:=ae (show ev g l (.bin 17 x y)=(1,0) by rw[bj.o];simp[aa.o,bG]);clear bG;go_wp2
  go_ret2
  exact gp.mk' a7.o J
 exact Bx
 ):p:=h
theorem BP(h:p:=by
 have d4:=(f.cell (p:=⟨b,o+4,none⟩) O).trans bH;have d5:=(f.cell (p:=⟨b,o+5,none⟩) O).trans cq;have d6:=(f.cell (p:=⟨b,o+6,none⟩) O).trans cu;have d7:=(f.cell (p:=⟨b,o+7,none⟩) O).trans e7;have u:=ae bP;clear az j e0 e1 e2 e3 bH cq cu e7 bP;have ak:∀V:World,Below W.heap.size W V->V.cell? ⟨w.heap.size,0,none⟩=some (.slice G ng cg)/\V.cell? ⟨w.heap.size,1,none⟩=some (.slice L nl cl)/\V.cell? ⟨w.heap.size+1,0,none⟩=some (.int .i64 op)/\V.cell? ⟨w.heap.size+1,3,none⟩=some (.slice (some ⟨b,o,none⟩) 2 c)/\V.cell? ⟨b,o,none⟩=some bU/\V.cell? ⟨b,o+1,none⟩=some Z/\V.cell? ⟨b,o+2,none⟩=some bm/\V.cell? ⟨b,o+3,none⟩=some E/\V.cell? ⟨b,o+4,none⟩=some b1/\V.cell? ⟨b,o+5,none⟩=some cn/\V.cell? ⟨b,o+6,none⟩=some cm/\V.cell? ⟨b,o+7,none⟩=some bv:=λV hV=>by
  have U:=u.o;have an:b<W.heap.size:=by have:=O;omega
  exact⟨(hV.cell (p:=⟨w.heap.size,0,none⟩) (by simp only[];omega)).trans a0,(hV.cell (p:=⟨w.heap.size,1,none⟩) (by simp only[];omega)).trans i,(hV.cell (p:=⟨w.heap.size+1,0,none⟩) (by simp only[];omega)).trans a8,(hV.cell (p:=⟨w.heap.size+1,3,none⟩) (by simp only[];omega)).trans q,(hV.cell (p:=⟨b,o,none⟩) an).trans d0,(hV.cell (p:=⟨b,o+1,none⟩) an).trans d1,(hV.cell (p:=⟨b,o+2,none⟩) an).trans d2,(hV.cell (p:=⟨b,o+3,none⟩) an).trans d3,(hV.cell (p:=⟨b,o+4,none⟩) an).trans d4,(hV.cell (p:=⟨b,o+5,none⟩) an).trans d5,(hV.cell (p:=⟨b,o+6,none⟩) an).trans d6,(hV.cell (p:=⟨b,o+7,none⟩) an).trans d7⟩
 have cK:=ae ak;clear ak a0 i a8 q d0 d1 d2 d3 d4 d5 d6 d7;go_region_held3 (λV=>V.cell? ⟨w.heap.size,0,none⟩=some (.slice G ng cg)/\V.cell? ⟨w.heap.size,1,none⟩=some (.slice L nl cl)/\V.cell? ⟨w.heap.size+1,0,none⟩=some (.int .i64 op)/\V.cell? ⟨w.heap.size+1,3,none⟩=some (.slice (some ⟨b,o,none⟩) 2 c)/\V.cell? ⟨b,o,none⟩=some bU/\V.cell? ⟨b,o+1,none⟩=some Z/\V.cell? ⟨b,o+2,none⟩=some bm/\V.cell? ⟨b,o+3,none⟩=some E/\V.cell? ⟨b,o+4,none⟩=some b1/\V.cell? ⟨b,o+5,none⟩=some cn/\V.cell? ⟨b,o+6,none⟩=some cm/\V.cell? ⟨b,o+7,none⟩=some bv)
  (first|exact cK.o _ (Below.refl _ _)|exact cK.o _ (Below.refl _ _).drew|exact cK.o _ bg|exact cK.o _ bg|exact cK.o _ bg.drew)
  (first|(go_at_call 116;refine(cM.o _ G L ng nl cg cl g l bU Z bm E ?_).mono ?_;(exact bd.on (Below.refl _ _).drew);rintro r aW ⟨rfl,d⟩;have bg:Below W.heap.size W aW:=(Below.refl W.heap.size W).drew.trans (d.mono (Lz _));clear d))
 have J:=(f.trans (bg.mono f.size))
 exact A3
 ):p:=h
theorem AW(h:p:=by
 obtain⟨cM,t⟩:=aH k m;clear h hx bb k m;go_enter func138,ntmps138;go_wp2;have f:=l6 (w:=w) (.cells #[.slice G ng cg,.slice L nl cl] 201) (.cells #[.int .i64 op,.int .i64 n,.string nm,.slice (some ⟨b,o,none⟩) 2 c] 56);have a0:((w.alloc (.cells #[.slice G ng cg,.slice L nl cl] 201)).alloc (.cells #[.int .i64 op,.int .i64 n,.string nm,.slice (some ⟨b,o,none⟩) 2 c] 56)).cell? ⟨w.heap.size,0,none⟩=some (.slice G ng cg):=by simp[go_sem]
 have i:((w.alloc (.cells #[.slice G ng cg,.slice L nl cl] 201)).alloc (.cells #[.int .i64 op,.int .i64 n,.string nm,.slice (some ⟨b,o,none⟩) 2 c] 56)).cell? ⟨w.heap.size,1,none⟩=some (.slice L nl cl):=by simp[go_sem]
 have a8:((w.alloc (.cells #[.slice G ng cg,.slice L nl cl] 201)).alloc (.cells #[.int .i64 op,.int .i64 n,.string nm,.slice (some ⟨b,o,none⟩) 2 c] 56)).cell? ⟨w.heap.size+1,0,none⟩=some (.int .i64 op):=by simp[go_sem]
 have q:((w.alloc (.cells #[.slice G ng cg,.slice L nl cl] 201)).alloc (.cells #[.int .i64 op,.int .i64 n,.string nm,.slice (some ⟨b,o,none⟩) 2 c] 56)).cell? ⟨w.heap.size+1,3,none⟩=some (.slice (some ⟨b,o,none⟩) 2 c):=by simp[go_sem]
 have bP:((w.alloc (.cells #[.slice G ng cg,.slice L nl cl] 201)).alloc (.cells #[.int .i64 op,.int .i64 n,.string nm,.slice (some ⟨b,o,none⟩) 2 c] 56)).heap.size=w.heap.size+2:=by simp
 generalize (w.alloc (.cells #[.slice G ng cg,.slice L nl cl] 201)).alloc (.cells #[.int .i64 op,.int .i64 n,.string nm,.slice (some ⟨b,o,none⟩) 2 c] 56)=W at *;have bd:=az.on f;have P:=j.on f;exact BO
 ):p:=h
end Cg
open Cg in
theorem wg(op:Int)(x y:VE)(k:jB x)(m:jB y):pE (.bin op x y):=by
 intro w G L ng nl cg cl g l c0 c1 c2 c3 h;exact AV
theorem mU(e:VE)(S:jZ e)(hl:∀w cs,e.at_ w cs->∃op n nm A k c,cs=[.int .i64 op,.int .i64 n,.string nm,.slice A k c]/\k<=1):jB e:=by
 intro w G L ng nl cg cl g l c0 c1 c2 c3 h;obtain⟨op,n,nm,A,k,c,T,aj⟩:=hl _ _ h.rep;injection T with h0 T;injection T with ac T;injection T with ax T;injection T with a1 T;subst h0 ac ax a1;clear T;have bM:=ae S;clear S hl;have q:((k:Int) == 2)=false:=by simp;omega
 have ar:(k == 2)=false:=by simp;omega
 clear aj;go_enter func116,ntmps116;go_wp2_with(fail);have f:=l6 (w:=w) (.cells #[.slice G ng cg,.slice L nl cl] 201) (.cells #[.int .i64 op,.int .i64 n,.string nm,.slice A k c] 56);have az:=h.on f;clear h;refine(bM.o _ G L ng nl cg cl g l _ _ _ _ az).mono ?_;rintro r ab ⟨rfl,O⟩;go_wp2
 go_ret2
 exact gp.mk' rfl (f.trans (O.mono f.size))
theorem D9(op:Int)(x y:VE)(S:pE (.bin op x y)):jB (.bin op x y):=by
 intro w G L ng nl cg cl g l c0 c1 c2 c3 h;obtain⟨n,nm,b,o,c,bU,Z,bm,E,b1,cn,cm,bv,T,_⟩:=h.rep;injection T with h0 T;injection T with ac T;injection T with ax T;injection T with a1 T;subst h0 ac ax a1;clear T;have bM:=ae S;clear S;go_enter func116,ntmps116;go_wp2_with(fail);have f:=l6 (w:=w) (.cells #[.slice G ng cg,.slice L nl cl] 201) (.cells #[.int .i64 op,.int .i64 n,.string nm,.slice (some ⟨b,o,none⟩) 2 c] 56);have az:=h.on f;clear h;refine(bM.o _ G L ng nl cg cl g l _ _ _ _ az).mono ?_;rintro r ab ⟨rfl,O⟩;go_wp2
 go_ret2
 exact gp.mk' rfl (f.trans (O.mono f.size))
theorem pg:∀e:VE,jB e
 | .num n=>mU _ (xb n) (λw cs h=>by obtain⟨nm,A,c,rfl⟩:=h;exact⟨_,_,_,_,_,_,rfl,ad⟩)
 | .ha s=>λw G L ng nl cg cl g l c0 c1 c2 c3 h=>h.ok.elim
 | .loc k=>mU _ (qW _ k (.inl rfl)) (λw cs h=>by obtain⟨nm,A,c,rfl⟩:=h;exact⟨_,_,_,_,_,_,rfl,ad⟩)
 | .iK k=>mU _ (qW _ k (.inr rfl)) (λw cs h=>by obtain⟨nm,A,c,rfl⟩:=h;exact⟨_,_,_,_,_,_,rfl,ad⟩)
 | .un op x=>mU _ (zx op x (pg x)) (λw cs h=>by obtain⟨n,nm,b,o,c,bU,Z,bm,E,rfl,_⟩:=h;exact⟨_,_,_,_,_,_,rfl,ad⟩)
 | .bin op x y=>D9 op x y (wg op x y (pg x) (pg y))
theorem pF(e:VE)(w:World)(G L:Mk)(ng nl cg cl:Nat)(g l:List Int)(c0 c1 c2 c3:Value)(h:lZ w G L ng nl g l e [c0,c1,c2,c3]) :
  Calls prog 93 #[.agg #[c0,c1,c2,c3],.slice G ng cg,.slice L nl cl] w (gp w (ev g l e)):=by
 have bj:=ae (pg e);go_enter func93,ntmps93;go_wp2_with(fail);have f:=(Below.refl w.heap.size w).alloc (Lz _) (.cells #[c0,c1,c2,c3] 56);have az:=h.on f;clear h;refine(bj.o _ G L ng nl cg cl g l _ _ _ _ az).mono ?_;rintro r ab ⟨rfl,O⟩;go_wp2
 go_ret2
 exact gp.mk' rfl (f.trans (O.mono f.size))
end
def IX(w:World)(x:VE)(e:Ending)(ab:World):Prop:=∃c0 c1 c2 c3,e=.returned (.agg #[c0,c1,c2,c3])/\x.rep ab (λb=>w.heap.size<=b/\b<ab.heap.size) [c0,c1,c2,c3]/\Below w.heap.size w ab
theorem IX.mk'{y:VE}{c0 c1 c2 c3:Value}(hx:x=y)(h:y.rep ab (λb=>w.heap.size<=b/\b<ab.heap.size) [c0,c1,c2,c3])(O:Below w.heap.size w ab):IX w x (.returned (.agg #[c0,c1,c2,c3])) ab:=by
 subst hx;exact⟨_,_,_,_,rfl,h,O⟩
def Im(n:Int):VE:=if 0<=n then .num n else .bin 9 (.un 3 (.num (wrap64 (-(wrap64 (n+1)))))) (.num 1)
theorem lZ.new(h:x.rep ab (λb=>B<=b/\b<ab.heap.size) cs)(b8:x.ok 0 0):lZ ab none none 0 0 [] [] x cs:=
 ⟨cA.bT _,cA.bT _,b8,VE.aK (λ_ h=>h.2) _ _ h⟩
theorem vw(x:Int):∃k,wrap64 x=x - 18446744073709551616*k:=⟨(x+9223372036854775808) / 18446744073709551616,by unfold wrap64;omega⟩
theorem ra(z m:Int):wrap64 (z - 18446744073709551616*m)=wrap64 z:=by unfold wrap64;omega
theorem oW(x y:Int):wrap64 (wrap64 x*y)=wrap64 (x*y):=by
 obtain⟨k,aj⟩:=vw x;rw[aj,show (x - 18446744073709551616*k)*y=x*y - 18446744073709551616*(k*y) by rw[Int.sub_mul,Int.mul_assoc],ra]
theorem oe(x y:Int):wrap64 (x - wrap64 y)=wrap64 (x - y):=by
 obtain⟨k,aj⟩:=vw y;rw[aj,show x - (y - 18446744073709551616*k)=x - y - 18446744073709551616*(-k) by omega,ra]
section
attribute [local go_sem ↓] gC gD
def Fits(n:Int):Prop:=-9223372036854775808<=n/\n<=9223372036854775807
theorem oM(n:Int):Fits (wrap64 n):=by unfold Fits wrap64;omega
theorem mD(b:Bool):Fits (fy b):=by cases b<;>(unfold Fits fy;decide)
def VE.fit:VE->Prop
 | .num n=>Fits n
 | .ha _=>True
 | .loc _=>True
 | .iK _=>True
 | .un _ x=>x.fit
 | .bin _ x y=>x.fit/\y.fit
theorem sq(a b:Int)(br:Fits a):Fits (a.tmod b):=by
 have c:=Int.natAbs_tmod a b;have hle:a.natAbs % b.natAbs<=a.natAbs:=Nat.mod_le _ _;rw[<-c] at hle;unfold Fits at *;rcases Int.lt_trichotomy a 0 with h|h|h
 .have ax:=Int.tmod_nonneg b (show 0<=-a by omega);rw[Int.neg_tmod] at ax;generalize a.tmod b=r at *;omega
 .subst h;simp
 .have ax:=Int.tmod_nonneg b (show 0<=a by omega);generalize a.tmod b=r at *;omega
theorem iA:Fits 0:=by unfold Fits;decide
theorem EG:Fits 1:=by unfold Fits;decide
theorem v8(op a b:Int)(br:Fits a):Fits (arith op a b).1:=by
 unfold arith
 repeat' split
 all_goals first|exact oM _|exact mD _|exact sq _ _ br|exact iA
theorem r0(aY:∀x∈g,Fits x)(k:Nat):Fits (g.getD k 0):=by
 rw[List.getD_eq_getElem?_getD]
 cases h:g[k]? with
 | none=>exact iA
 | some v=>exact aY v (LF h)
theorem s5{g l:List Int}(aY:∀x∈g,Fits x)(hl:∀x∈l,Fits x):∀e:VE,e.fit->Fits (ev g l e).1
 | .num _,h=>h
 | .ha _,_=>iA
 | .loc _,_=>r0 hl _
 | .iK _,_=>r0 aY _
 | .un op x,_=>by
  rw[ev]
  repeat' split
  all_goals first|exact iA|exact oM _|exact mD _
 | .bin op x y,h=>by
  rw[ev]
  repeat' split
  all_goals first|exact iA|exact EG|exact mD _|exact v8 _ _ _ (s5 aY hl x h.1)
theorem Gs(a b:Int)(br:Fits a):wrap64 (a - wrap64 (wrap64 (a.tdiv b)*b))=a.tmod b:=by
 rw[oW,oe,show a - a.tdiv b*b=a.tmod b by have:=Int.tdiv_mul_add_tmod a b;omega];exact IntWalk.wrap64_in _ (sq a b br)
structure oh(g l:List Int)(e:VE):Prop where
 fg:∀x∈g,Fits x
 fl:∀x∈l,Fits x
 fe:e.fit
def jb(e:VE):Prop:=∀(w:World) (G L:Mk) (ng nl cg cl:Nat) (g l:List Int) (c0 c1 c2 c3:Value),lZ w G L ng nl g l e [c0,c1,c2,c3]->oh g l e->
 Calls prog 43 #[.agg #[c0,c1,c2,c3],.slice G ng cg,.slice L nl cl] w (gp w (ev g l e))
theorem Gn(n:Int):jb (.num n):=by
 intro w G L ng nl cg cl g l c0 c1 c2 c3 h _;obtain⟨nm,A,c,T⟩:=h.rep;injection T with h0 T;injection T with ac T;injection T with ax T;injection T with a1 T;subst h0 ac ax a1;clear h T;go_enter func43,ntmps43;go_wp2
 go_ret2
 exact vK
theorem ym(e:VE)(k:Int)(he:e=.loc k\/e=.iK k):jb e:=by
 intro w G L ng nl cg cl g l c0 c1 c2 c3 h _;have a:=(Below.refl w.heap.size w).alloc (Lz _) (.cells #[c0,c1,c2,c3] 56);have bF:=h.gs.cS a a.size;have y:=h.ls.cS a a.size;clear a;have b8:=h.ok;rcases he with rfl|rfl
 all_goals
  obtain⟨nm,A,c,T⟩:=h.rep;injection T with h0 T;injection T with ac T;injection T with ax T;injection T with a1 T;subst h0 ac ax a1;clear h T;obtain⟨bm,b7⟩:=b8;obtain⟨j,rfl⟩:=LH bm
 .obtain⟨b,o,x,rfl,O,hx,hc⟩:=y.int (show j<nl by omega);have bi:j<nl:=ad;have aR:=ae (show ev g l (.loc j)=(x,0) by simp[ev,List.getD_eq_getElem?_getD,hx]);clear hx bF y;go_enter func43,ntmps43;go_wp2
  go_ret2
  exact gp.mk' aR.o ((Below.refl _ _).alloc (Lz _) _)
 .obtain⟨b,o,x,rfl,O,hx,hc⟩:=bF.int (show j<ng by omega);have bi:j<ng:=ad;have aR:=ae (show ev g l (.iK j)=(x,0) by simp[ev,List.getD_eq_getElem?_getD,hx]);clear hx bF y;go_enter func43,ntmps43;go_wp2
  go_ret2
  exact gp.mk' aR.o ((Below.refl _ _).alloc (Lz _) _)
namespace Ch
theorem Bq(h:p:=by
 have bT:=ae (show oh g l x from ⟨i.fg,i.fl,i.fe⟩);obtain⟨cM,a5⟩:=aH ap co;clear h hx ap i;have ce:(op == 1)=false:=by simp;omega
 have g2:(op == 18)=false:=by simp;omega
 have cN:(op == 19)=false:=by simp;omega
 clear co;have f:=(Below.refl w.heap.size w).alloc (Lz _) (.cells #[.int .i64 op,.int .i64 n,.string nm,.slice (some ⟨b,o,none⟩) 1 c] 56);have a0:(w.alloc (.cells #[.int .i64 op,.int .i64 n,.string nm,.slice (some ⟨b,o,none⟩) 1 c] 56)).cell? ⟨w.heap.size,0,none⟩=some (.int .i64 op):=by simp[go_sem]
 have a3:(w.alloc (.cells #[.int .i64 op,.int .i64 n,.string nm,.slice (some ⟨b,o,none⟩) 1 c] 56)).cell? ⟨w.heap.size,3,none⟩=some (.slice (some ⟨b,o,none⟩) 1 c):=by simp[go_sem]
 have bP:(w.alloc (.cells #[.int .i64 op,.int .i64 n,.string nm,.slice (some ⟨b,o,none⟩) 1 c] 56)).heap.size=w.heap.size+1:=by simp
 have HA:=bA a0 a3 bP f;clear a0 a3 bP f;go_enter func43,ntmps43;go_wp2_with(fail);refine(cM.o _ G L ng nl cg cl g l bU Z bm E (az.on HA.2.2.2) bT.o).mono ?_;rintro r aP ⟨rfl,bX⟩;obtain⟨a0,a3,bP,f⟩:=HA.o;have cS:=(bX.cell (p:=⟨w.heap.size,0,none⟩) (by simp only[];omega)).trans a0;have J:=f.trans (bX.mono f.size);have z:=ae J;clear HA a0 a3 bP f bX az cM J;have bj:=ae (show ev g l (.un op x)=if (ev g l x).2≠0 then (0,(ev g l x).2) else if op=3 then (wrap64 (-(ev g l x).1),0) else (fy ((ev g l x).1 == 0),0) from rfl);clear bT;generalize ev g l x=r1 at *;obtain⟨v1,f1⟩:=r1;by_cases be:f1=0
 case neg=>
  have q1:(f1 != 0)=true:=by simpa using be
  have a7:=ae (show ev g l (.un op x)=(0,f1) by rw[bj.o];simp[be]);clear be;go_wp2
  go_ret2
  exact gp.mk' a7.o z.o
 have q1:(f1 != 0)=false:=by simpa using be
 rcases a5.o with a1|aU
 .have a7:=ae (show ev g l (.un op x)=(wrap64 (-v1),0) by rw[bj.o];simp[be,a1]);subst a1;clear be;go_wp2
  go_ret2
  exact gp.mk' a7.o z.o
 .have a7:=ae (show ev g l (.un op x)=(fy (v1 == 0),0) by rw[bj.o];simp[be,aU]);subst aU;clear be;go_wp2_with(fail);refine(ih _ _).mono ?_;rintro e ab ⟨rfl,rfl⟩;go_wp2
  go_ret2
  exact gp.mk' a7.o z.o
 ):p:=h
end Ch
open Ch in
theorem Ir(op:Int)(x:VE)(ap:jb x):jb (.un op x):=by
 intro w G L ng nl cg cl g l c0 c1 c2 c3 h i;exact Bp
namespace Ci
theorem By(h:p:=by
 have split:(op == 16)=true/\(v1 == 0)=false/\(op == 17)=false\/(op == 16)=false/\(op == 17)=true/\(v1 != 0)=false\/(op == 16)=false/\(op == 17)=false:=by
  exact Hb
 clear br bn bj;have bM:=ae split;clear split;have second:∀(P:Prop),P->P:=λ_ h=>h;clear second;rcases bM.o with⟨cU,cy,dv⟩|⟨cU,cy,dv⟩|⟨cU,cy⟩
 all_goals
  go_wp2_with(fail);refine(t.o _ G L ng nl cg cl g l b1 cn cm bv (j.on z.o) bT.2).mono ?_;rintro r aW ⟨rfl,bg⟩;have hq:=(bg.cell (p:=⟨w.heap.size,0,none⟩) ap).trans cS;have I:=ae (z.trans (bg.mono z.size));clear bg z cS cR d4 d5 d6 d7 j t ap;generalize ev g l y=gR at *;obtain⟨v2,f2⟩:=gR;by_cases ay:f2=0
  case neg=>
   have da:(f2 != 0)=true:=by simpa using ay
   have cd:=ae (show ev g l (.bin op x y)=(0,f2) by rw[ba.o];simp[ay]);clear ay;go_wp2
   go_ret2
   exact gp.mk' cd.o I.o
  have da:(f2 != 0)=false:=by simpa using ay
  have cd:=ae (show ev g l (.bin op x y)=if op=16\/op=17 then (fy (v2 != 0),0) else arith op v1 v2 by rw[ba.o];simp[ay]);clear ay ba bM
  try clear dv
  first
  | (have F:=ae (show ev g l (.bin op x y)=(fy (v2 != 0),0) by rw[cd.o,if_pos (by first|exact .inl (by simpa using cU)|exact .inr (by simpa using cy))]);have hc:op=16\/op=17:=(by first|exact .inl (by simpa using cU)|exact .inr (by simpa using cy));clear cU cy cd ce g2 cN cZ fe;rcases hc with rfl|rfl;all_goals
     go_wp2_with(fail);refine(ih _ _).mono ?_;rintro e ab ⟨rfl,rfl⟩;go_wp2
     go_ret2
     exact gp.mk' F.o I.o)
  | (have bl:op≠16/\op≠17:=⟨by simpa using cU,by simpa using cy⟩;have F:=ae (show ev g l (.bin op x y)=arith op v1 v2 by rw[cd.o,if_neg ad]);have hc:op=5\/op=6\/op=7\/op=8\/op=9\/op=10\/op=11\/op=12\/op=13\/op=14\/op=15:=(aB a5.o);clear cU cy cd ce g2 cN cZ fe bl a5;by_cases h0:v2=0
     .subst h0;clear cc;rcases hc with rfl|rfl|rfl|rfl|rfl|rfl|rfl|rfl|rfl|rfl|rfl
      all_goals
       go_wp2_with(fail)
       try (refine(ih _ _).mono ?_;rintro e ab ⟨rfl,rfl⟩;go_wp2)
       go_ret2
       first|exact gp.mk' F.o I.o|exact gp.mk' (F.trans (by first|(simp[arith];done)|(simp[arith];decide +kernel))) I.o
     .have db:(v2 == 0)=false:=by simpa using h0
      have bh:=ae h0;clear h0;rcases hc with rfl|rfl|rfl|rfl|rfl|rfl|rfl|rfl|rfl|rfl|rfl
      case inr.inl=>
       go_wp2_with(fail);refine(m5 _ _ bh.o _).mono ?_;rintro e ab ⟨rfl,rfl⟩;go_wp2
       go_ret2
       exact gp.mk' (F.trans (by simp[arith,bh.o])) I.o
      case inr.inr.inl=>
       go_wp2_with(fail);refine(m5 _ _ bh.o _).mono ?_;rintro e ab ⟨rfl,rfl⟩;go_wp2
       go_ret2
       exact gp.mk' (F.trans (by simp[arith,bh.o,Gs _ _ cc.o])) I.o
      all_goals
       clear db;go_wp2_with(fail)
       try (refine(ih _ _).mono ?_;rintro e ab ⟨rfl,rfl⟩;go_wp2)
       go_ret2
       exact gp.mk' F.o I.o)
 ):p:=h
theorem A4(h:p:=by
 by_cases be:f1=0
 case neg=>
  have q1:(f1 != 0)=true:=by simpa using be
  have a7:=ae (show ev g l (.bin op x y)=(0,f1) by rw[bj.o];simp[be]);clear be;go_wp2
  go_ret2
  exact gp.mk' a7.o z.o
 have q1:(f1 != 0)=false:=by simpa using be
 have aa:=ae be;clear be;by_cases br:op=16/\v1=0
 .obtain⟨rfl,rfl⟩:=br;have a7:=ae (show ev g l (.bin 16 x y)=(0,0) by rw[bj.o];simp[aa.o]);go_wp2
  go_ret2
  exact gp.mk' a7.o z.o
 by_cases bn:op=17/\v1≠0
 .obtain⟨rfl,bG⟩:=bn;have cO:(v1 != 0)=true:=by simpa using bG
  have a7:=ae (show ev g l (.bin 17 x y)=(1,0) by rw[bj.o];simp[aa.o,bG]);clear bG;go_wp2
  go_ret2
  exact gp.mk' a7.o z.o
 exact Bx
 ):p:=h
theorem AW(h:p:=by
 have bT:=ah (show oh g l x from ⟨i.fg,i.fl,i.fe.1⟩) (show oh g l y from ⟨i.fg,i.fl,i.fe.2⟩);have cc:=ae (s5 i.fg i.fl x i.fe.1);obtain⟨cM,t,a5⟩:=eS k m co;clear h hx bb k m i;have ce:(op == 1)=false:=by simp;omega
 have g2:(op == 18)=false:=by simp;omega
 have cN:(op == 19)=false:=by simp;omega
 have cZ:(op == 3)=false:=by simp;omega
 have fe:(op == 4)=false:=by simp;omega
 clear co;have f:=(Below.refl w.heap.size w).alloc (Lz _) (.cells #[.int .i64 op,.int .i64 n,.string nm,.slice (some ⟨b,o,none⟩) 2 c] 56);have a0:(w.alloc (.cells #[.int .i64 op,.int .i64 n,.string nm,.slice (some ⟨b,o,none⟩) 2 c] 56)).cell? ⟨w.heap.size,0,none⟩=some (.int .i64 op):=by simp[go_sem]
 have a3:(w.alloc (.cells #[.int .i64 op,.int .i64 n,.string nm,.slice (some ⟨b,o,none⟩) 2 c] 56)).cell? ⟨w.heap.size,3,none⟩=some (.slice (some ⟨b,o,none⟩) 2 c):=by simp[go_sem]
 have bP:(w.alloc (.cells #[.int .i64 op,.int .i64 n,.string nm,.slice (some ⟨b,o,none⟩) 2 c] 56)).heap.size=w.heap.size+1:=by simp
 have HA:=bA a0 a3 bP f;clear a0 a3 bP f;go_enter func43,ntmps43;go_wp2_with(fail);refine(cM.o _ G L ng nl cg cl g l bU Z bm E (az.on HA.2.2.2) bT.1).mono ?_;rintro r aP ⟨rfl,bX⟩;obtain⟨a0,a3,bP,f⟩:=HA.o;have cS:=(bX.cell (p:=⟨w.heap.size,0,none⟩) (by simp only[];omega)).trans a0;have cR:=(bX.cell (p:=⟨w.heap.size,3,none⟩) (by simp only[];omega)).trans a3;have J:=f.trans (bX.mono f.size);have d4:=(J.cell (p:=⟨b,o+4,none⟩) O).trans bH;have d5:=(J.cell (p:=⟨b,o+5,none⟩) O).trans cq;have d6:=(J.cell (p:=⟨b,o+6,none⟩) O).trans cu;have d7:=(J.cell (p:=⟨b,o+7,none⟩) O).trans e7;have ap:w.heap.size<aP.heap.size:=by have:=bX.size;omega
 have z:=ae J;clear HA a0 a3 bP f bX az cM J e0 e1 e2 e3 bH cq cu e7;exact A3
 ):p:=h
end Ci
open Ci in
theorem Gm(op:Int)(x y:VE)(k:jb x)(m:jb y):jb (.bin op x y):=by
 intro w G L ng nl cg cl g l c0 c1 c2 c3 h i;exact AV
theorem nW:∀e:VE,jb e
 | .num n=>Gn n
 | .ha _=>λ_ _ _ _ _ _ _ _ _ _ _ _ _ h _=>h.ok.elim
 | .loc k=>ym _ k (.inl rfl)
 | .iK k=>ym _ k (.inr rfl)
 | .un op x=>Ir op x (nW x)
 | .bin op x y=>Gm op x y (nW x) (nW y)
end
def idx(ms:Int)(r:Int×Int):Int×Int:=if r.2≠0 then (0,r.2) else if r.1<0\/ms<=r.1 then (0,2) else (r.1,0)
structure zJ(w:World)(MA:Mk)(mn:Nat)(X:List bL)(G L:Mk)(ng nl:Nat)(g l:List Int)(e:VE)(i:Nat)(m:bL)(b o:Nat)(c0 c1 c2 c3:Value):Prop where
 ev:lZ w G L ng nl g l e [c0,c1,c2,c3]
 ms:cA (EF hk) 3 w w.heap.size MA mn X
 i1:i<mn
 hm:X[i]?=some m
 bl:b<w.heap.size
 e0:w.cell? ⟨b,o,none⟩=some c0
 e1:w.cell? ⟨b,o+1,none⟩=some c1
 e2:w.cell? ⟨b,o+2,none⟩=some c2
 e3:w.cell? ⟨b,o+3,none⟩=some c3
theorem cA.J6{n:Nat}{A:Mk}{l:List bL}(h:cA (EF hk) 3 w B A n l){k:Nat}(aj:k<n):
  ∃b o m,A=some ⟨b,o,none⟩/\b<B/\l[k]?=some m/\w.cell? ⟨b,o+k*3,none⟩=some (.string m.name)/\w.cell? ⟨b,o+k*3+1,none⟩=some (.bool m.re)/\w.cell? ⟨b,o+k*3+2,none⟩=some (.int .i64 m.size):=by
 obtain⟨b,o,x,bO,O,hx,_,hc⟩:=h.Je aj;exact⟨b,o,x,bO,O,hx,hc 0 _ rfl,hc 1 _ rfl,hc 2 _ rfl⟩
namespace Cj
theorem AM(h:p:=by
 have q1:decide ((i:Int)<0)=false:=by simp
 have cO:decide (i>=mn)=false:=by simp;omega
 have a:decide (mn<=i)=false:=by simp;omega
 have da:(0:Int)<=(i:Int):=ad;have db:(i:Int)<(mn:Int):=ad;have bP:=ae (ar.on (Fr.ext aF));clear hm aR ar F;go_enter func77,ntmps77;go_wp2_with(fail);have cS:=(aF.cell (j:=o) T (λh=>h)).trans e0;have cv:=(aF.cell (j:=o+1) T (λh=>h)).trans e1;generalize w.alloc (.cells #[.bool false,.int .i64 i,.slice (some ⟨b,o,none⟩) 1 pc] 58)=W at *;refine(pF e W G L ng nl cg cl g l _ _ _ _ bP.o).mono ?_;exact GY
 ):p:=h
end Cj
open Cj in
theorem yE(w:World)(MA:Mk)(mn mc:Nat)(X:List bL)(G L:Mk)(ng nl cg cl:Nat)(g l:List Int)(e:VE)(i:Nat)(m:bL)(b o pc:Nat)(c0 c1 c2 c3:Value)
  (h:zJ w MA mn X G L ng nl g l e i m b o c0 c1 c2 c3) :
  Calls prog 77 #[.agg #[.bool false,.int .i64 i,.slice (some ⟨b,o,none⟩) 1 pc],.slice MA mn mc,.slice G ng cg,.slice L nl cl] w (gp w (idx m.size (ev g l e))):=by
 exact AL
namespace Ck
theorem AM(h:p:=by
 have da:(0:Int)<=(i:Int):=ad;have db:(i:Int)<(mn:Int):=ad;have bP:=ae (ar.on (Fr.ext aF));have c:=ae a;clear hm aR ar F a;go_enter func82,ntmps82;go_wp2_with(fail);have cS:=(aF.cell (j:=o) T (λh=>h)).trans e0;have cv:=(aF.cell (j:=o+1) T (λh=>h)).trans e1;generalize w.alloc (.cells #[.bool false,.int .i64 i,.slice (some ⟨b,o,none⟩) 1 pc] 58)=W at *;refine(nW e W G L ng nl cg cl g l _ _ _ _ bP.o c.o).mono ?_;exact GY
 ):p:=h
end Ck
open Ck in
theorem ts(w:World)(MA:Mk)(mn mc:Nat)(X:List bL)(G L:Mk)(ng nl cg cl:Nat)(g l:List Int)(e:VE)(i:Nat)(m:bL)(b o pc:Nat)(c0 c1 c2 c3:Value)
  (h:zJ w MA mn X G L ng nl g l e i m b o c0 c1 c2 c3) (a:oh g l e) :
  Calls prog 82 #[.agg #[.bool false,.int .i64 i,.slice (some ⟨b,o,none⟩) 1 pc],.slice MA mn mc,.slice G ng cg,.slice L nl cl] w (gp w (idx m.size (ev g l e))):=by
 exact AL
theorem vD(w:World)(i:Int)(A:Mk)(pc:Nat)(b:Bool)(m g l:Value):Calls prog 77 #[.agg #[.bool b,.int .i64 i,.slice A 0 pc],m,g,l] w (gp w (0,0)):=by
 go_enter func77,ntmps77;go_wp2
 go_ret2
 exact vK
theorem rz(w:World)(i:Int)(A:Mk)(pc:Nat)(b:Bool)(m g l:Value):Calls prog 82 #[.agg #[.bool b,.int .i64 i,.slice A 0 pc],m,g,l] w (gp w (0,0)):=by
 go_enter func82,ntmps82;go_wp2
 go_ret2
 exact vK
end Go.Proofs.YtflecliffjbleaaGreat

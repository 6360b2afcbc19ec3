/- Part 5 of the proof. No condition of its own. -/
import Derived.Test.YtpkfopfkdgkfkaaGreatQ02
namespace Go.Proofs.YtpkfopfkdgkfkaaGreat
open Go.RowKit Go.Proofs.Tryz
set_option maxRecDepth 1000000
set_option maxHeartbeats 25600000
set_option linter.unusedVariables false
variable{a:Act}{K:Act->World->Prop}{d:D}{g:List Int}{cs xs:List Value}{M:Nat->Prop}{o:Oper}{rest:PT}{G p:Prop}{α β γ:Type}{x:VE}{S:World}
section
attribute [local go_sem ↓] gE gF
theorem kj(b:Bool)(w:World):Calls prog 153 #[b] w λe ab=>e=.returned (.int .i64 (fx b))/\w=ab:=by
 cases b<;>(go_enter func153,ntmps153;go_wp2;go_ret;exact⟨rfl,rfl⟩)
theorem ij(b:Bool)(w:World):Calls prog 124 #[b] w λe ab=>e=.returned (.int .i64 (fx b))/\w=ab:=by
 cases b<;>(go_enter func124,ntmps124;go_wp2;go_ret;exact⟨rfl,rfl⟩)
theorem nX(A:Mt)(n c:Nat)(l:List Int)(k:Int)(w:World)(h:cw (EF cO) 1 w w.heap.size A n l)(h0:0<=k)(ac:k<n) :
  Calls prog 152 #[.slice A n c,k] w λe ab=>e=.returned (.int .i64 (l.getD k.toNat 0))/\w=ab:=by
 obtain⟨j,rfl⟩:=LP h0;obtain⟨b,o,x,rfl,O,hx,hc⟩:=h.int (show j<n by omega);have bd:j<n:=ad;have aN:=ae (show l.getD (j:Int).toNat 0=x by rw[Mc,List.getD_eq_getElem?_getD,hx];rfl);clear hx h;go_enter func152,ntmps152;go_wp2;go_ret;exact⟨ret_int (by rw[aN.o]),rfl⟩
theorem mV(a b:Int)(O:b≠0)(w:World) :
  Calls prog 125 #[a,b] w λe ab=>e=.returned (.int .i64 (wrap64 (a.tdiv b)))/\w=ab:=by
 by_cases ac:b = -1
 .subst ac;go_enter func125,ntmps125;go_wp2;go_ret;exact⟨ret_int (by rw[Int.tdiv_neg,Int.tdiv_one]),rfl⟩
 .have bT:(b == -1)=false:=by simpa using ac
  have dd:(b == 0)=false:=by simpa using O
  go_enter func125,ntmps125;go_wp2;go_ret;exact⟨rfl,rfl⟩
def gp(w:World)(r:Int×Int)(e:Ending)(ab:World):Prop:=e=.returned (.tuple #[.int .i64 r.1,.int .i64 r.2])/\Below w.heap.size w ab
theorem gp.mk'{w ab:World}{r:Int×Int}{a b:Int}(a5:r=(a,b))(O:Below w w ab):gp w r (.returned (.tuple #[a,b])) ab:=by
 subst a5;exact⟨rfl,O⟩
theorem pG(op a b:Int)(h:5<=op/\op<=15)(w:World) :
  Calls prog 154 #[op,a,b] w (gp w (arith op a b)):=by
 by_cases hdiv:(op=6\/op=7)/\b=0
 .obtain⟨cw,rfl⟩:=hdiv;rcases cw with rfl|rfl
  all_goals
   go_enter func154,ntmps154;go_wp2
   go_ret2
   exact gp.mk' rfl (Below.refl _ _)
 .obtain rfl|rfl|rfl|rfl|rfl|rfl|rfl|rfl|rfl|rfl|rfl:op=5\/op=6\/op=7\/op=8\/op=9\/op=10\/op=11\/op=12\/op=13\/op=14\/op=15:=ad
  case inr.inl=>
   have O:b≠0:=λah=>hdiv ⟨.inl rfl,ah⟩;have dd:(b == 0)=false:=by simpa using O
   have HA:=ae (show arith 6 a b=(wrap64 (a.tdiv b),0) by unfold arith;simp[O]);clear hdiv h;go_enter func154,ntmps154;go_wp2
   go_ret2
   exact gp.mk' HA.o (Below.refl _ _)
  case inr.inr.inl=>
   have O:b≠0:=λah=>hdiv ⟨.inr rfl,ah⟩;have dd:(b == 0)=false:=by simpa using O
   have HA:=ae (show arith 7 a b=(a.tmod b,0) by unfold arith;simp[O]);clear hdiv h;go_enter func154,ntmps154;go_wp2
   go_ret2
   exact gp.mk' HA.o (Below.refl _ _)
  all_goals
   clear hdiv h;go_enter func154,ntmps154;go_wp2_with((go_at_call 153;refine(kj _ _).mono ?_;rintro e ab ⟨rfl,rfl⟩))
   go_ret2
   exact gp.mk' rfl (Below.refl _ _)
end
section
attribute [local go_sem ↓] gE gF
structure lO(w:World)(G L:Mt)(ng nl:Nat)(g l:List Int)(e:VE)(cs:List Value):Prop where
 gs:cw (EF cO) 1 w w.heap.size G ng g
 ls:cw (EF cO) 1 w w.heap.size L nl l
 ok:e.ok ng nl
 rep:e.at_ w cs
theorem lO.on{w ab:World}{G L:Mt}{ng nl:Nat}{l:List Int}{e:VE}(h:lO w G L ng nl g l e cs)(O:Below w w ab):lO ab G L ng nl g l e cs:=
 ⟨h.gs.cZ O O.size,h.ls.cZ O O.size,h.ok,VE.Jq h.rep O⟩
def jw(e:VE):Prop:=∀(w:World) (G L:Mt) (ng nl cg cl:Nat) (g l:List Int) (c0 c1 c2 c3:Value),lO w G L ng nl g l e [c0,c1,c2,c3]->
 Calls prog 134 #[.agg #[.slice G ng cg,.slice L nl cl],.agg #[c0,c1,c2,c3]] w (gp w (ev g l e))
def jW(e:VE):Prop:=∀(w:World) (G L:Mt) (ng nl cg cl:Nat) (g l:List Int) (c0 c1 c2 c3:Value),lO w G L ng nl g l e [c0,c1,c2,c3]->
 Calls prog 146 #[.agg #[.slice G ng cg,.slice L nl cl],.agg #[c0,c1,c2,c3]] w (gp w (ev g l e))
def po(e:VE):Prop:=∀(w:World) (G L:Mt) (ng nl cg cl:Nat) (g l:List Int) (c0 c1 c2 c3:Value),lO w G L ng nl g l e [c0,c1,c2,c3]->
 Calls prog 147 #[.agg #[.slice G ng cg,.slice L nl cl],.agg #[c0,c1,c2,c3]] w (gp w (ev g l e))
theorem lW{w:World}(a b:Obj):Below w w ((w.alloc a).alloc b):=((Below.refl _ _).alloc (LK _) _).alloc (by simp) _
theorem xb(n:Int):jW (.num n):=by
 intro w G L ng nl cg cl g l c0 c1 c2 c3 h;obtain⟨nm,A,c,T⟩:=h.rep;injection T with h0 T;injection T with ac T;injection T with ap T;injection T with aV T;subst h0 ac ap aV;clear h T;go_enter func146,ntmps146;go_wp2
 go_ret2
 exact gp.mk' rfl (lW _ _)
namespace Ch
theorem BN(h:p:=by
 have u:=ae bS;clear a6 e0 e1 e2 e3 bS;have ai:∀V:World,Below W W V->V.cell? ⟨w,0,none⟩=some (.slice G ng cg)/\V.cell? ⟨w,1,none⟩=some (.slice L nl cl)/\V.cell? ⟨w.heap.size+1,0,none⟩=some (.int .i64 op)/\V.cell? ⟨w.heap.size+1,3,none⟩=some (.slice (some ⟨b,o,none⟩) 1 c)/\
   V.cell? ⟨b,o,none⟩=some ci/\V.cell? ⟨b,o+1,none⟩=some aK/\V.cell? ⟨b,o+2,none⟩=some a4/\V.cell? ⟨b,o+3,none⟩=some E:=λV hV=>by
  have U:=u.o;have aB:b<W:=by have:=O;omega
  exact⟨(hV.cell (p:=⟨w,0,none⟩) (by simp only[];omega)).trans a0,(hV.cell (p:=⟨w,1,none⟩) (by simp only[];omega)).trans i,(hV.cell (p:=⟨w.heap.size+1,0,none⟩) (by simp only[];omega)).trans bq,(hV.cell (p:=⟨w.heap.size+1,3,none⟩) (by simp only[];omega)).trans en,
   (hV.cell (p:=⟨b,o,none⟩) aB).trans d0,(hV.cell (p:=⟨b,o+1,none⟩) aB).trans d1,(hV.cell (p:=⟨b,o+2,none⟩) aB).trans d2,(hV.cell (p:=⟨b,o+3,none⟩) aB).trans d3⟩
 have da:=ae ai;clear ai a0 i bq en d0 d1 d2 d3;go_region_held3 (λV=>V.cell? ⟨w,0,none⟩=some (.slice G ng cg)/\V.cell? ⟨w,1,none⟩=some (.slice L nl cl)/\V.cell? ⟨w.heap.size+1,0,none⟩=some (.int .i64 op)/\V.cell? ⟨w.heap.size+1,3,none⟩=some (.slice (some ⟨b,o,none⟩) 1 c)/\
   V.cell? ⟨b,o,none⟩=some ci/\V.cell? ⟨b,o+1,none⟩=some aK/\V.cell? ⟨b,o+2,none⟩=some a4/\V.cell? ⟨b,o+3,none⟩=some E)
  (first|exact da.o _ (Below.refl _ _)|exact da.o _ (Below.refl _ _).drew|exact da.o _ bj)
  (first|(go_at_call 134;refine(b5.o _ G L ng nl cg cl g l ci aK a4 E ?_).mono ?_;(exact ba.on (Below.refl _ _).drew);rintro r ab ⟨rfl,d⟩;have bj:Below W W ab:=(Below.refl W W).drew.trans d;clear d))
 have J:=(f.trans (bj.mono f.size))
 have br:=ae (show ev g l (.un op x)=if (ev g l x).2≠0 then (0,(ev g l x).2) else if op=3 then (wrap64 (-(ev g l x).1),0) else (fx ((ev g l x).1 == 0),0) from rfl);generalize ev g l x=r1 at *;obtain⟨v1,f1⟩:=r1;clear da b5 ba;by_cases bB:f1=0
 case neg=>
  have q1:(f1 != 0)=true:=by simpa using bB
  have a8:=ae (show ev g l (.un op x)=(0,f1) by rw[br.o];simp[bB]);clear bB;go_wp2
  go_ret2
  exact gp.mk' a8.o J
 have q1:(f1 != 0)=false:=by simpa using bB
 rcases ch.o with aV|bz
 .have a8:=ae (show ev g l (.un op x)=(wrap64 (-v1),0) by rw[br.o];simp[bB,aV]);subst aV;clear bB;go_wp2
  go_ret2
  exact gp.mk' a8.o J
 .have a8:=ae (show ev g l (.un op x)=(fx (v1 == 0),0) by rw[br.o];simp[bB,bz]);subst bz;clear bB;go_wp2_with((go_at_call 153;refine(kj _ _).mono ?_;rintro e ab ⟨rfl,rfl⟩))
  go_ret2
  exact gp.mk' a8.o J
 ):p:=h
theorem Bo(h:p:=by
 obtain⟨b5,ch⟩:=aJ ax cw;clear h hx ax;have bT:(op == 1)=false:=by simp;omega
 have g2:(op == 18)=false:=by simp;omega
 have cP:(op == 19)=false:=by simp;omega
 clear cw;go_enter func146,ntmps146;go_wp2;have f:=lW (w:=w) (.cells #[.slice G ng cg,.slice L nl cl] 218) (.cells #[op,n,nm,.slice (some ⟨b,o,none⟩) 1 c] 117);have a0:((w.alloc (.cells #[.slice G ng cg,.slice L nl cl] 218)).alloc (.cells #[op,n,nm,.slice (some ⟨b,o,none⟩) 1 c] 117)).cell? ⟨w,0,none⟩=some (.slice G ng cg):=by simp[go_sem]
 have i:((w.alloc (.cells #[.slice G ng cg,.slice L nl cl] 218)).alloc (.cells #[op,n,nm,.slice (some ⟨b,o,none⟩) 1 c] 117)).cell? ⟨w,1,none⟩=some (.slice L nl cl):=by simp[go_sem]
 have bq:((w.alloc (.cells #[.slice G ng cg,.slice L nl cl] 218)).alloc (.cells #[op,n,nm,.slice (some ⟨b,o,none⟩) 1 c] 117)).cell? ⟨w.heap.size+1,0,none⟩=some (.int .i64 op):=by simp[go_sem]
 have en:((w.alloc (.cells #[.slice G ng cg,.slice L nl cl] 218)).alloc (.cells #[op,n,nm,.slice (some ⟨b,o,none⟩) 1 c] 117)).cell? ⟨w.heap.size+1,3,none⟩=some (.slice (some ⟨b,o,none⟩) 1 c):=by simp[go_sem]
 have bS:((w.alloc (.cells #[.slice G ng cg,.slice L nl cl] 218)).alloc (.cells #[op,n,nm,.slice (some ⟨b,o,none⟩) 1 c] 117)).heap.size=w.heap.size+2:=by simp
 generalize (w.alloc (.cells #[.slice G ng cg,.slice L nl cl] 218)).alloc (.cells #[op,n,nm,.slice (some ⟨b,o,none⟩) 1 c] 117)=W at *;have ba:=a6.on f;exact BM
 ):p:=h
end Ch
open Ch in
theorem zh(op:Int)(x:VE)(ax:jw x):jW (.un op x):=by
 intro w G L ng nl cg cl g l c0 c1 c2 c3 h;exact Bn
theorem qH(e:VE)(k:Int)(he:e=.loc k\/e=.iI k):jW e:=by
 intro w G L ng nl cg cl g l c0 c1 c2 c3 h;have a:=lW (w:=w) (.cells #[.slice G ng cg,.slice L nl cl] 218) (.cells #[c0,c1,c2,c3] 117);have bB:=h.gs.cZ a a.size;have y:=h.ls.cZ a a.size;clear a;have ca:=h.ok;rcases he with rfl|rfl
 all_goals
  obtain⟨nm,A,c,T⟩:=h.rep;injection T with h0 T;injection T with ac T;injection T with ap T;injection T with aV T;subst h0 ac ap aV;clear h T;obtain⟨bp,ce⟩:=ca;go_enter func146,ntmps146;go_wp2_with(fail)
  first
  | refine(nX L nl cl l k _ y bp ce).mono ?_
  | refine(nX G ng cg g k _ bB bp ce).mono ?_
  rintro e ab ⟨rfl,rfl⟩;go_wp2
  go_ret2
  exact gp.mk' rfl (lW _ _)
namespace Ci
theorem Bw(h:p:=by
 obtain⟨HA,ch⟩:=aJ aZ bn;clear br;have split:(op == 16)=true/\(v1 == 0)=false/\(op == 17)=false\/(op == 16)=false/\(op == 17)=true/\(v1 != 0)=false\/(op == 16)=false/\(op == 17)=false:=by
  exact Hu
 clear aZ bn;have bt:=ae split;clear split;rcases bt.o with⟨bu,bp,dA⟩|⟨bu,bp,dA⟩|⟨bu,bp⟩
 all_goals
  go_wp2;go_region_held3 (λV=>V.cell? ⟨w,0,none⟩=some (.slice G ng cg)/\V.cell? ⟨w,1,none⟩=some (.slice L nl cl)/\V.cell? ⟨w.heap.size+1,0,none⟩=some (.int .i64 op)/\V.cell? ⟨w.heap.size+1,3,none⟩=some (.slice (some ⟨b,o,none⟩) 2 c)/\V.cell? ⟨b,o,none⟩=some ci/\V.cell? ⟨b,o+1,none⟩=some aK/\V.cell? ⟨b,o+2,none⟩=some a4/\V.cell? ⟨b,o+3,none⟩=some E/\V.cell? ⟨b,o+4,none⟩=some cK/\V.cell? ⟨b,o+5,none⟩=some cp/\V.cell? ⟨b,o+6,none⟩=some cX/\V.cell? ⟨b,o+7,none⟩=some bx)
   (first|exact da.o _ (Below.refl _ _)|exact da.o _ (Below.refl _ _).drew|exact da.o _ aE|exact da.o _ bj|exact da.o _ bj.drew)
   (first|(go_at_call 134;refine(t.o _ G L ng nl cg cl g l cK cp cX bx ?_).mono ?_;(exact(P.on bj).on (Below.refl _ _).drew);rintro r b7 ⟨rfl,d⟩;have aE:Below W W b7:=bj.drew.trans (d.mono bj.size);clear d))
  have J:=(f.trans (aE.mono f.size))
  generalize ev g l y=dQ at *;obtain⟨v2,f2⟩:=dQ;by_cases aC:f2=0
  case neg=>
   have c9:(f2 != 0)=true:=by simpa using aC
   have cj:=ae (show ev g l (.bin op x y)=(0,f2) by rw[cd.o];simp[aC]);clear aC;go_wp2
   go_ret2
   exact gp.mk' cj.o J
  have c9:(f2 != 0)=false:=by simpa using aC
  have cj:=ae (show ev g l (.bin op x y)=if op=16\/op=17 then (fx (v2 != 0),0) else arith op v1 v2 by rw[cd.o];simp[aC]);clear aC cd
  first
  | (have aa:=ae (show ev g l (.bin op x y)=(fx (v2 != 0),0) by rw[cj.o,if_pos (by first|exact .inl (by simpa using bu)|exact .inr (by simpa using bp))]);go_wp2_with((go_at_call 153;refine(kj _ _).mono ?_;rintro e ab ⟨rfl,rfl⟩));go_ret2;exact gp.mk' aa.o J)
  | (have bi:op≠16/\op≠17:=⟨by simpa using bu,by simpa using bp⟩;have aa:=ae (show ev g l (.bin op x y)=arith op v1 v2 by rw[cj.o,if_neg ad]);go_wp2_with(fail);refine(pG op v1 v2 ad _).mono ?_;rintro e cS ⟨rfl,bG⟩;go_wp2;go_ret2;exact gp.mk' (by rw[aa.o]) (J.trans (bG.mono J.size)))
 ):p:=h
theorem AV(h:p:=by
 clear b5 ba;by_cases bB:f1=0
 case neg=>
  have q1:(f1 != 0)=true:=by simpa using bB
  have a8:=ae (show ev g l (.bin op x y)=(0,f1) by rw[br.o];simp[bB]);clear bB;go_wp2
  go_ret2
  exact gp.mk' a8.o J
 have q1:(f1 != 0)=false:=by simpa using bB
 have bw:=ae bB;clear bB;by_cases aZ:op=16/\v1=0
 .obtain⟨rfl,rfl⟩:=aZ;have a8:=ae (show ev g l (.bin 16 x y)=(0,0) by rw[br.o];simp[bw.o]);go_wp2
  go_ret2
  exact gp.mk' a8.o J
 by_cases bn:op=17/\v1≠0
 .obtain⟨rfl,bE⟩:=bn;have cJ:(v1 != 0)=true:=by simpa using bE
  have a8:=ae (show ev g l (.bin 17 x y)=(1,0) by rw[br.o];simp[bw.o,bE]);clear bE;go_wp2
  go_ret2
  exact gp.mk' a8.o J
 exact Bv
 ):p:=h
theorem BN(h:p:=by
 have d4:=(f.cell (p:=⟨b,o+4,none⟩) O).trans be;have d5:=(f.cell (p:=⟨b,o+5,none⟩) O).trans co;have d6:=(f.cell (p:=⟨b,o+6,none⟩) O).trans bD;have d7:=(f.cell (p:=⟨b,o+7,none⟩) O).trans e7;have u:=ae bS;clear a6 j e0 e1 e2 e3 be co bD e7 bS;have ai:∀V:World,Below W W V->V.cell? ⟨w,0,none⟩=some (.slice G ng cg)/\V.cell? ⟨w,1,none⟩=some (.slice L nl cl)/\V.cell? ⟨w.heap.size+1,0,none⟩=some (.int .i64 op)/\V.cell? ⟨w.heap.size+1,3,none⟩=some (.slice (some ⟨b,o,none⟩) 2 c)/\V.cell? ⟨b,o,none⟩=some ci/\V.cell? ⟨b,o+1,none⟩=some aK/\V.cell? ⟨b,o+2,none⟩=some a4/\V.cell? ⟨b,o+3,none⟩=some E/\V.cell? ⟨b,o+4,none⟩=some cK/\V.cell? ⟨b,o+5,none⟩=some cp/\V.cell? ⟨b,o+6,none⟩=some cX/\V.cell? ⟨b,o+7,none⟩=some bx:=λV hV=>by
  have U:=u.o;have aB:b<W:=by have:=O;omega
  exact⟨(hV.cell (p:=⟨w,0,none⟩) (by simp only[];omega)).trans a0,(hV.cell (p:=⟨w,1,none⟩) (by simp only[];omega)).trans i,(hV.cell (p:=⟨w.heap.size+1,0,none⟩) (by simp only[];omega)).trans bq,(hV.cell (p:=⟨w.heap.size+1,3,none⟩) (by simp only[];omega)).trans en,(hV.cell (p:=⟨b,o,none⟩) aB).trans d0,(hV.cell (p:=⟨b,o+1,none⟩) aB).trans d1,(hV.cell (p:=⟨b,o+2,none⟩) aB).trans d2,(hV.cell (p:=⟨b,o+3,none⟩) aB).trans d3,(hV.cell (p:=⟨b,o+4,none⟩) aB).trans d4,(hV.cell (p:=⟨b,o+5,none⟩) aB).trans d5,(hV.cell (p:=⟨b,o+6,none⟩) aB).trans d6,(hV.cell (p:=⟨b,o+7,none⟩) aB).trans d7⟩
 have da:=ae ai;clear ai a0 i bq en d0 d1 d2 d3 d4 d5 d6 d7;go_region_held3 (λV=>V.cell? ⟨w,0,none⟩=some (.slice G ng cg)/\V.cell? ⟨w,1,none⟩=some (.slice L nl cl)/\V.cell? ⟨w.heap.size+1,0,none⟩=some (.int .i64 op)/\V.cell? ⟨w.heap.size+1,3,none⟩=some (.slice (some ⟨b,o,none⟩) 2 c)/\V.cell? ⟨b,o,none⟩=some ci/\V.cell? ⟨b,o+1,none⟩=some aK/\V.cell? ⟨b,o+2,none⟩=some a4/\V.cell? ⟨b,o+3,none⟩=some E/\V.cell? ⟨b,o+4,none⟩=some cK/\V.cell? ⟨b,o+5,none⟩=some cp/\V.cell? ⟨b,o+6,none⟩=some cX/\V.cell? ⟨b,o+7,none⟩=some bx)
  (first|exact da.o _ (Below.refl _ _)|exact da.o _ (Below.refl _ _).drew|exact da.o _ bj|exact da.o _ bj|exact da.o _ bj.drew)
  (first|(go_at_call 134;refine(b5.o _ G L ng nl cg cl g l ci aK a4 E ?_).mono ?_;(exact ba.on (Below.refl _ _).drew);rintro r aT ⟨rfl,d⟩;have bj:Below W W aT:=(Below.refl W W).drew.trans (d.mono (LK _));clear d))
 have J:=(f.trans (bj.mono f.size))
 exact AU
 ):p:=h
theorem AO(h:p:=by
 obtain⟨b5,t⟩:=aJ k m;clear h hx bb k m;go_enter func147,ntmps147;go_wp2;have f:=lW (w:=w) (.cells #[.slice G ng cg,.slice L nl cl] 218) (.cells #[op,n,nm,.slice (some ⟨b,o,none⟩) 2 c] 117);have a0:((w.alloc (.cells #[.slice G ng cg,.slice L nl cl] 218)).alloc (.cells #[op,n,nm,.slice (some ⟨b,o,none⟩) 2 c] 117)).cell? ⟨w,0,none⟩=some (.slice G ng cg):=by simp[go_sem]
 have i:((w.alloc (.cells #[.slice G ng cg,.slice L nl cl] 218)).alloc (.cells #[op,n,nm,.slice (some ⟨b,o,none⟩) 2 c] 117)).cell? ⟨w,1,none⟩=some (.slice L nl cl):=by simp[go_sem]
 have bq:((w.alloc (.cells #[.slice G ng cg,.slice L nl cl] 218)).alloc (.cells #[op,n,nm,.slice (some ⟨b,o,none⟩) 2 c] 117)).cell? ⟨w.heap.size+1,0,none⟩=some (.int .i64 op):=by simp[go_sem]
 have en:((w.alloc (.cells #[.slice G ng cg,.slice L nl cl] 218)).alloc (.cells #[op,n,nm,.slice (some ⟨b,o,none⟩) 2 c] 117)).cell? ⟨w.heap.size+1,3,none⟩=some (.slice (some ⟨b,o,none⟩) 2 c):=by simp[go_sem]
 have bS:((w.alloc (.cells #[.slice G ng cg,.slice L nl cl] 218)).alloc (.cells #[op,n,nm,.slice (some ⟨b,o,none⟩) 2 c] 117)).heap.size=w.heap.size+2:=by simp
 generalize (w.alloc (.cells #[.slice G ng cg,.slice L nl cl] 218)).alloc (.cells #[op,n,nm,.slice (some ⟨b,o,none⟩) 2 c] 117)=W at *;have ba:=a6.on f;have P:=j.on f;exact BM
 ):p:=h
end Ci
open Ci in
theorem v3(op:Int)(x y:VE)(k:jw x)(m:jw y):po (.bin op x y):=by
 intro w G L ng nl cg cl g l c0 c1 c2 c3 h;exact AN
theorem mH(e:VE)(S:jW e)(hl:∀w cs,e.at_ w cs->∃op n nm A k c,cs=[.int .i64 op,.int .i64 n,.string nm,.slice A k c]/\k<=1):jw e:=by
 intro w G L ng nl cg cl g l c0 c1 c2 c3 h;obtain⟨op,n,nm,A,k,c,T,aj⟩:=hl _ _ h.rep;injection T with h0 T;injection T with ac T;injection T with ap T;injection T with aV T;subst h0 ac ap aV;clear T;have bt:=ae S;clear S hl;have q:((k:Int) == 2)=false:=by simp;omega
 have z:(k == 2)=false:=by simp;omega
 clear aj;go_enter func134,ntmps134;go_wp2_with(fail);have f:=lW (w:=w) (.cells #[.slice G ng cg,.slice L nl cl] 218) (.cells #[op,n,nm,.slice A k c] 117);have a6:=h.on f;clear h;refine(bt.o _ G L ng nl cg cl g l _ _ _ _ a6).mono ?_;rintro r ab ⟨rfl,O⟩;go_wp2
 go_ret2
 exact gp.mk' rfl (f.trans (O.mono f.size))
theorem Er(op:Int)(x y:VE)(S:po (.bin op x y)):jw (.bin op x y):=by
 intro w G L ng nl cg cl g l c0 c1 c2 c3 h;obtain⟨n,nm,b,o,c,ci,aK,a4,E,cK,cp,cX,bx,T,_⟩:=h.rep;injection T with h0 T;injection T with ac T;injection T with ap T;injection T with aV T;subst h0 ac ap aV;clear T;have bt:=ae S;clear S;go_enter func134,ntmps134;go_wp2_with(fail);have f:=lW (w:=w) (.cells #[.slice G ng cg,.slice L nl cl] 218) (.cells #[op,n,nm,.slice (some ⟨b,o,none⟩) 2 c] 117);have a6:=h.on f;clear h;refine(bt.o _ G L ng nl cg cl g l _ _ _ _ a6).mono ?_;rintro r ab ⟨rfl,O⟩;go_wp2
 go_ret2
 exact gp.mk' rfl (f.trans (O.mono f.size))
theorem oT:∀e:VE,jw e
 | .num n=>mH _ (xb n) (λw cs h=>by obtain⟨nm,A,c,rfl⟩:=h;exact⟨_,_,_,_,_,_,rfl,ad⟩)
 | .hg s=>λw G L ng nl cg cl g l c0 c1 c2 c3 h=>h.ok.elim
 | .loc k=>mH _ (qH _ k (.inl rfl)) (λw cs h=>by obtain⟨nm,A,c,rfl⟩:=h;exact⟨_,_,_,_,_,_,rfl,ad⟩)
 | .iI k=>mH _ (qH _ k (.inr rfl)) (λw cs h=>by obtain⟨nm,A,c,rfl⟩:=h;exact⟨_,_,_,_,_,_,rfl,ad⟩)
 | .un op x=>mH _ (zh op x (oT x)) (λw cs h=>by obtain⟨n,nm,b,o,c,ci,aK,a4,E,rfl,_⟩:=h;exact⟨_,_,_,_,_,_,rfl,ad⟩)
 | .bin op x y=>Er op x y (v3 op x y (oT x) (oT y))
theorem pq(e:VE)(w:World)(G L:Mt)(ng nl cg cl:Nat)(g l:List Int)(c0 c1 c2 c3:Value)(h:lO w G L ng nl g l e [c0,c1,c2,c3]) :
  Calls prog 103 #[.agg #[c0,c1,c2,c3],.slice G ng cg,.slice L nl cl] w (gp w (ev g l e)):=by
 have br:=ae (oT e);go_enter func103,ntmps103;go_wp2_with(fail);have f:=(Below.refl w w).alloc (LK _) (.cells #[c0,c1,c2,c3] 117);have a6:=h.on f;clear h;refine(br.o _ G L ng nl cg cl g l _ _ _ _ a6).mono ?_;rintro r ab ⟨rfl,O⟩;go_wp2
 go_ret2
 exact gp.mk' rfl (f.trans (O.mono f.size))
end
def Jb(w:World)(x:VE)(e:Ending)(ab:World):Prop:=∃c0 c1 c2 c3,e=.returned (.agg #[c0,c1,c2,c3])/\x.rep ab (λb=>w.heap.size<=b/\b<ab.heap.size) [c0,c1,c2,c3]/\Below w.heap.size w ab
theorem Jb.mk'{w ab:World}{y:VE}{c0 c1 c2 c3:Value}(hx:x=y)(h:y.rep ab (λb=>w.heap.size<=b/\b<ab.heap.size) [c0,c1,c2,c3])(O:Below w w ab):Jb w x (.returned (.agg #[c0,c1,c2,c3])) ab:=by
 subst hx;exact⟨_,_,_,_,rfl,h,O⟩
def IE(n:Int):VE:=if 0<=n then .num n else .bin 9 (.un 3 (.num (wrap64 (-(wrap64 (n+1)))))) (.num 1)
theorem lO.new{ab:World}{B:Nat}(h:x.rep ab (λb=>B<=b/\b<ab.heap.size) cs)(ca:x.ok 0 0):lO ab none none 0 0 [] [] x cs:=
 ⟨cw.bS _,cw.bS _,ca,VE.aK (λ_ h=>h.2) _ _ h⟩
theorem vi(x:Int):∃k,wrap64 x=x - 18446744073709551616*k:=⟨(x+9223372036854775808) / 18446744073709551616,by unfold wrap64;omega⟩
theorem qU(z m:Int):wrap64 (z - 18446744073709551616*m)=wrap64 z:=by unfold wrap64;omega
theorem oK(x y:Int):wrap64 (wrap64 x*y)=wrap64 (x*y):=by
 obtain⟨k,aj⟩:=vi x;rw[aj,show (x - 18446744073709551616*k)*y=x*y - 18446744073709551616*(k*y) by rw[Int.sub_mul,Int.mul_assoc],qU]
theorem nT(x y:Int):wrap64 (x - wrap64 y)=wrap64 (x - y):=by
 obtain⟨k,aj⟩:=vi y;rw[aj,show x - (y - 18446744073709551616*k)=x - y - 18446744073709551616*(-k) by omega,qU]
section
attribute [local go_sem ↓] gE gF
def Fits(n:Int):Prop:=-9223372036854775808<=n/\n<=9223372036854775807
theorem ow(n:Int):Fits (wrap64 n):=by unfold Fits wrap64;omega
theorem ml(b:Bool):Fits (fx b):=by cases b<;>(unfold Fits fx;decide)
def VE.fit:VE->Prop
 | .num n=>Fits n
 | .hg _=>True
 | .loc _=>True
 | .iI _=>True
 | .un _ x=>x.fit
 | .bin _ x y=>x.fit/\y.fit
theorem r8(a b:Int)(aZ:Fits a):Fits (a.tmod b):=by
 have c:=Int.natAbs_tmod a b;have hle:a.natAbs % b.natAbs<=a.natAbs:=Nat.mod_le _ _;rw[<-c] at hle;unfold Fits at *;rcases Int.lt_trichotomy a 0 with h|h|h
 .have ap:=Int.tmod_nonneg b (show 0<=-a by omega);rw[Int.neg_tmod] at ap;generalize a.tmod b=r at *;omega
 .subst h;simp
 .have ap:=Int.tmod_nonneg b (show 0<=a by omega);generalize a.tmod b=r at *;omega
theorem iz:Fits 0:=by unfold Fits;decide
theorem E4:Fits 1:=by unfold Fits;decide
theorem vU(op a b:Int)(aZ:Fits a):Fits (arith op a b).1:=by
 unfold arith
 repeat' split
 all_goals first|exact ow _|exact ml _|exact r8 _ _ aZ|exact iz
theorem rM(aR:∀x∈g,Fits x)(k:Nat):Fits (g.getD k 0):=by
 rw[List.getD_eq_getElem?_getD]
 cases h:g[k]? with
 | none=>exact iz
 | some v=>exact aR v (LN h)
theorem sW{g l:List Int}(aR:∀x∈g,Fits x)(hl:∀x∈l,Fits x):∀e:VE,e.fit->Fits (ev g l e).1
 | .num _,h=>h
 | .hg _,_=>iz
 | .loc _,_=>rM hl _
 | .iI _,_=>rM aR _
 | .un op x,_=>by
  rw[ev]
  repeat' split
  all_goals first|exact iz|exact ow _|exact ml _
 | .bin op x y,h=>by
  rw[ev]
  repeat' split
  all_goals first|exact iz|exact E4|exact ml _|exact vU _ _ _ (sW aR hl x h.1)
theorem GL(a b:Int)(aZ:Fits a):wrap64 (a - wrap64 (wrap64 (a.tdiv b)*b))=a.tmod b:=by
 rw[oK,nT,show a - a.tdiv b*b=a.tmod b by have:=Int.tdiv_mul_add_tmod a b;omega];exact IntWalk.wrap64_in _ (r8 a b aZ)
structure nV(g l:List Int)(e:VE):Prop where
 fg:∀x∈g,Fits x
 fl:∀x∈l,Fits x
 fe:e.fit
def iX(e:VE):Prop:=∀(w:World) (G L:Mt) (ng nl cg cl:Nat) (g l:List Int) (c0 c1 c2 c3:Value),lO w G L ng nl g l e [c0,c1,c2,c3]->nV g l e->
 Calls prog 78 #[.agg #[c0,c1,c2,c3],.slice G ng cg,.slice L nl cl] w (gp w (ev g l e))
theorem GK(n:Int):iX (.num n):=by
 intro w G L ng nl cg cl g l c0 c1 c2 c3 h _;obtain⟨nm,A,c,T⟩:=h.rep;injection T with h0 T;injection T with ac T;injection T with ap T;injection T with aV T;subst h0 ac ap aV;clear h T;go_enter func78,ntmps78;go_wp2
 go_ret2
 exact vx
theorem yg(e:VE)(k:Int)(he:e=.loc k\/e=.iI k):iX e:=by
 intro w G L ng nl cg cl g l c0 c1 c2 c3 h _;have a:=(Below.refl w w).alloc (LK _) (.cells #[c0,c1,c2,c3] 117);have bB:=h.gs.cZ a a.size;have y:=h.ls.cZ a a.size;clear a;have ca:=h.ok;rcases he with rfl|rfl
 all_goals
  obtain⟨nm,A,c,T⟩:=h.rep;injection T with h0 T;injection T with ac T;injection T with ap T;injection T with aV T;subst h0 ac ap aV;clear h T;obtain⟨bp,ce⟩:=ca;obtain⟨j,rfl⟩:=LP bp
 .obtain⟨b,o,x,rfl,O,hx,hc⟩:=y.int (show j<nl by omega);have bd:j<nl:=ad;have aN:=ae (show ev g l (.loc j)=(x,0) by simp[ev,List.getD_eq_getElem?_getD,hx]);clear hx bB y;go_enter func78,ntmps78;go_wp2
  go_ret2
  exact gp.mk' aN.o ((Below.refl _ _).alloc (LK _) _)
 .obtain⟨b,o,x,rfl,O,hx,hc⟩:=bB.int (show j<ng by omega);have bd:j<ng:=ad;have aN:=ae (show ev g l (.iI j)=(x,0) by simp[ev,List.getD_eq_getElem?_getD,hx]);clear hx bB y;go_enter func78,ntmps78;go_wp2
  go_ret2
  exact gp.mk' aN.o ((Below.refl _ _).alloc (LK _) _)
namespace Cj
theorem Bo(h:p:=by
 have b3:=ae (show nV g l x from ⟨i.fg,i.fl,i.fe⟩);obtain⟨b5,ch⟩:=aJ ax cw;clear h hx ax i;have bT:(op == 1)=false:=by simp;omega
 have g2:(op == 18)=false:=by simp;omega
 have cP:(op == 19)=false:=by simp;omega
 clear cw;have f:=(Below.refl w w).alloc (LK _) (.cells #[op,n,nm,.slice (some ⟨b,o,none⟩) 1 c] 117);have a0:(w.alloc (.cells #[op,n,nm,.slice (some ⟨b,o,none⟩) 1 c] 117)).cell? ⟨w,0,none⟩=some (.int .i64 op):=by simp[go_sem]
 have a3:(w.alloc (.cells #[op,n,nm,.slice (some ⟨b,o,none⟩) 1 c] 117)).cell? ⟨w,3,none⟩=some (.slice (some ⟨b,o,none⟩) 1 c):=by simp[go_sem]
 have bS:(w.alloc (.cells #[op,n,nm,.slice (some ⟨b,o,none⟩) 1 c] 117)).heap.size=w.heap.size+1:=by simp
 have HA:=bF a0 a3 bS f;clear a0 a3 bS f;go_enter func78,ntmps78;go_wp2_with(fail);refine(b5.o _ G L ng nl cg cl g l ci aK a4 E (a6.on HA.2.2.2) b3.o).mono ?_;rintro r aS ⟨rfl,b0⟩;obtain⟨a0,a3,bS,f⟩:=HA.o;have dg:=(b0.cell (p:=⟨w,0,none⟩) (by simp only[];omega)).trans a0;have J:=f.trans (b0.mono f.size);have z:=ae J;clear HA a0 a3 bS f b0 a6 b5 J;have br:=ae (show ev g l (.un op x)=if (ev g l x).2≠0 then (0,(ev g l x).2) else if op=3 then (wrap64 (-(ev g l x).1),0) else (fx ((ev g l x).1 == 0),0) from rfl);clear b3;generalize ev g l x=r1 at *;obtain⟨v1,f1⟩:=r1;by_cases bB:f1=0
 case neg=>
  have q1:(f1 != 0)=true:=by simpa using bB
  have a8:=ae (show ev g l (.un op x)=(0,f1) by rw[br.o];simp[bB]);clear bB;go_wp2
  go_ret2
  exact gp.mk' a8.o z.o
 have q1:(f1 != 0)=false:=by simpa using bB
 rcases ch.o with aV|bz
 .have a8:=ae (show ev g l (.un op x)=(wrap64 (-v1),0) by rw[br.o];simp[bB,aV]);subst aV;clear bB;go_wp2
  go_ret2
  exact gp.mk' a8.o z.o
 .have a8:=ae (show ev g l (.un op x)=(fx (v1 == 0),0) by rw[br.o];simp[bB,bz]);subst bz;clear bB;go_wp2_with(fail);refine(ij _ _).mono ?_;rintro e ab ⟨rfl,rfl⟩;go_wp2
  go_ret2
  exact gp.mk' a8.o z.o
 ):p:=h
end Cj
open Cj in
theorem II(op:Int)(x:VE)(ax:iX x):iX (.un op x):=by
 intro w G L ng nl cg cl g l c0 c1 c2 c3 h i;exact Bn
namespace Ck
theorem Bw(h:p:=by
 have split:(op == 16)=true/\(v1 == 0)=false/\(op == 17)=false\/(op == 16)=false/\(op == 17)=true/\(v1 != 0)=false\/(op == 16)=false/\(op == 17)=false:=by
  exact Hu
 clear aZ bn br;have bt:=ae split;clear split;have second:∀(P:Prop),P->P:=λ_ h=>h;clear second;rcases bt.o with⟨bu,bp,dA⟩|⟨bu,bp,dA⟩|⟨bu,bp⟩
 all_goals
  go_wp2_with(fail);refine(t.o _ G L ng nl cg cl g l cK cp cX bx (j.on z.o) b3.2).mono ?_;rintro r aT ⟨rfl,bj⟩;have hs:=(bj.cell (p:=⟨w,0,none⟩) an).trans dg;have I:=ae (z.trans (bj.mono z.size));clear bj z dg b9 d4 d5 d6 d7 j t an;generalize ev g l y=dQ at *;obtain⟨v2,f2⟩:=dQ;by_cases aC:f2=0
  case neg=>
   have c9:(f2 != 0)=true:=by simpa using aC
   have cj:=ae (show ev g l (.bin op x y)=(0,f2) by rw[cd.o];simp[aC]);clear aC;go_wp2
   go_ret2
   exact gp.mk' cj.o I.o
  have c9:(f2 != 0)=false:=by simpa using aC
  have cj:=ae (show ev g l (.bin op x y)=if op=16\/op=17 then (fx (v2 != 0),0) else arith op v1 v2 by rw[cd.o];simp[aC]);clear aC cd bt
  try clear dA
  first
  | (have aa:=ae (show ev g l (.bin op x y)=(fx (v2 != 0),0) by rw[cj.o,if_pos (by first|exact .inl (by simpa using bu)|exact .inr (by simpa using bp))]);have hc:op=16\/op=17:=(by first|exact .inl (by simpa using bu)|exact .inr (by simpa using bp));clear bu bp cj bT g2 cP db dU;rcases hc with rfl|rfl;all_goals
     go_wp2_with(fail);refine(ij _ _).mono ?_;rintro e ab ⟨rfl,rfl⟩;go_wp2
     go_ret2
     exact gp.mk' aa.o I.o)
  | (have bi:op≠16/\op≠17:=⟨by simpa using bu,by simpa using bp⟩;have aa:=ae (show ev g l (.bin op x y)=arith op v1 v2 by rw[cj.o,if_neg ad]);have hc:op=5\/op=6\/op=7\/op=8\/op=9\/op=10\/op=11\/op=12\/op=13\/op=14\/op=15:=(ay ch.o);clear bu bp cj bT g2 cP db dU bi ch;by_cases h0:v2=0
     .subst h0;clear cc;rcases hc with rfl|rfl|rfl|rfl|rfl|rfl|rfl|rfl|rfl|rfl|rfl
      all_goals
       go_wp2_with(fail)
       try (refine(ij _ _).mono ?_;rintro e ab ⟨rfl,rfl⟩;go_wp2)
       go_ret2
       first|exact gp.mk' aa.o I.o|exact gp.mk' (aa.trans (by first|(simp[arith];done)|(simp[arith];decide +kernel))) I.o
     .have dk:(v2 == 0)=false:=by simpa using h0
      have bk:=ae h0;clear h0;rcases hc with rfl|rfl|rfl|rfl|rfl|rfl|rfl|rfl|rfl|rfl|rfl
      case inr.inl=>
       go_wp2_with(fail);refine(mV _ _ bk.o _).mono ?_;rintro e ab ⟨rfl,rfl⟩;go_wp2
       go_ret2
       exact gp.mk' (aa.trans (by simp[arith,bk.o])) I.o
      case inr.inr.inl=>
       go_wp2_with(fail);refine(mV _ _ bk.o _).mono ?_;rintro e ab ⟨rfl,rfl⟩;go_wp2
       go_ret2
       exact gp.mk' (aa.trans (by simp[arith,bk.o,GL _ _ cc.o])) I.o
      all_goals
       clear dk;go_wp2_with(fail)
       try (refine(ij _ _).mono ?_;rintro e ab ⟨rfl,rfl⟩;go_wp2)
       go_ret2
       exact gp.mk' aa.o I.o)
 ):p:=h
theorem AV(h:p:=by
 by_cases bB:f1=0
 case neg=>
  have q1:(f1 != 0)=true:=by simpa using bB
  have a8:=ae (show ev g l (.bin op x y)=(0,f1) by rw[br.o];simp[bB]);clear bB;go_wp2
  go_ret2
  exact gp.mk' a8.o z.o
 have q1:(f1 != 0)=false:=by simpa using bB
 have bw:=ae bB;clear bB;by_cases aZ:op=16/\v1=0
 .obtain⟨rfl,rfl⟩:=aZ;have a8:=ae (show ev g l (.bin 16 x y)=(0,0) by rw[br.o];simp[bw.o]);go_wp2
  go_ret2
  exact gp.mk' a8.o z.o
 by_cases bn:op=17/\v1≠0
 .obtain⟨rfl,bE⟩:=bn;have cJ:(v1 != 0)=true:=by simpa using bE
  have a8:=ae (show ev g l (.bin 17 x y)=(1,0) by rw[br.o];simp[bw.o,bE]);clear bE;go_wp2
  go_ret2
  exact gp.mk' a8.o z.o
 exact Bv
 ):p:=h
theorem AO(h:p:=by
 have b3:=ag (show nV g l x from ⟨i.fg,i.fl,i.fe.1⟩) (show nV g l y from ⟨i.fg,i.fl,i.fe.2⟩);have cc:=ae (sW i.fg i.fl x i.fe.1);obtain⟨b5,t,ch⟩:=ef k m cw;clear h hx bb k m i;have bT:(op == 1)=false:=by simp;omega
 have g2:(op == 18)=false:=by simp;omega
 have cP:(op == 19)=false:=by simp;omega
 have db:(op == 3)=false:=by simp;omega
 have dU:(op == 4)=false:=by simp;omega
 clear cw;have f:=(Below.refl w w).alloc (LK _) (.cells #[op,n,nm,.slice (some ⟨b,o,none⟩) 2 c] 117);have a0:(w.alloc (.cells #[op,n,nm,.slice (some ⟨b,o,none⟩) 2 c] 117)).cell? ⟨w,0,none⟩=some (.int .i64 op):=by simp[go_sem]
 have a3:(w.alloc (.cells #[op,n,nm,.slice (some ⟨b,o,none⟩) 2 c] 117)).cell? ⟨w,3,none⟩=some (.slice (some ⟨b,o,none⟩) 2 c):=by simp[go_sem]
 have bS:(w.alloc (.cells #[op,n,nm,.slice (some ⟨b,o,none⟩) 2 c] 117)).heap.size=w.heap.size+1:=by simp
 have HA:=bF a0 a3 bS f;clear a0 a3 bS f;go_enter func78,ntmps78;go_wp2_with(fail);refine(b5.o _ G L ng nl cg cl g l ci aK a4 E (a6.on HA.2.2.2) b3.1).mono ?_;rintro r aS ⟨rfl,b0⟩;obtain⟨a0,a3,bS,f⟩:=HA.o;have dg:=(b0.cell (p:=⟨w,0,none⟩) (by simp only[];omega)).trans a0;have b9:=(b0.cell (p:=⟨w,3,none⟩) (by simp only[];omega)).trans a3;have J:=f.trans (b0.mono f.size);have d4:=(J.cell (p:=⟨b,o+4,none⟩) O).trans be;have d5:=(J.cell (p:=⟨b,o+5,none⟩) O).trans co;have d6:=(J.cell (p:=⟨b,o+6,none⟩) O).trans bD;have d7:=(J.cell (p:=⟨b,o+7,none⟩) O).trans e7;have an:w<aS.heap.size:=by have:=b0.size;omega
 have z:=ae J;clear HA a0 a3 bS f b0 a6 b5 J e0 e1 e2 e3 be co bD e7;exact AU
 ):p:=h
end Ck
open Ck in
theorem GJ(op:Int)(x y:VE)(k:iX x)(m:iX y):iX (.bin op x y):=by
 intro w G L ng nl cg cl g l c0 c1 c2 c3 h i;exact AN
theorem nI:∀e:VE,iX e
 | .num n=>GK n
 | .hg _=>λ_ _ _ _ _ _ _ _ _ _ _ _ _ h _=>h.ok.elim
 | .loc k=>yg _ k (.inl rfl)
 | .iI k=>yg _ k (.inr rfl)
 | .un op x=>II op x (nI x)
 | .bin op x y=>GJ op x y (nI x) (nI y)
end
abbrev lh(P:Nat->Prop)(w:World)(v:Value):Nat->Prop:=λb=>P b/\b<w.heap.size/\v.ownBlock≠some b
structure Gr(P:Nat->Prop)(B:Nat)(e:TypeId)(z:Nat)(w:World)(A:Mt)(n c:Nat)(l:List D):Prop where
 len:l.length=n
 ex:∃xs,w.ownsRow B e z (.slice A n c) n xs/\D.aM w (lh P w (.slice A n c)) l xs
section
variable {P Q:Nat->Prop} {B q:Nat} {e:TypeId} {z:Nat} {w ab aS:World} {A:Mt} {n c:Nat} {l:List D}
theorem Gr.nil(P:Nat->Prop)(B:Nat)(e:TypeId)(z:Nat)(w:World):Gr P B e z w none 0 0 []:=⟨rfl,[],⟨by simp,.inl ⟨rfl,rfl⟩⟩,by simp only[D.aM]⟩
theorem Gr.lt(h:Gr P B e z w A n c l){g:Nat}(aR:(Value.slice A n c).ownBlock=some g):B<=g/\g<w:=by
 obtain⟨_,xs,ac,_⟩:=h;exact ac.lt g aR
theorem Gr.cap(h:Gr P B e z w A n c l):n<=c/\c<=maxLen:=by
 obtain⟨_,xs,ac,_⟩:=h;obtain⟨_,_,bE,ap,aV,_⟩:=bT ac;injection bE with _ _ bE;subst bE;exact⟨ap,aV⟩
theorem Gr.ai(h:Gr P B e z w A n c l)(hs:w.heap.size<=ab.heap.size)(aj:∀b,b<w.heap.size->(P b\/B<=b)->ab.heap[b]?=w.heap[b]?):Gr P B e z ab A n c l:=by
 obtain⟨hl,xs,ac,ap⟩:=h;refine⟨hl,xs,⟨ac.1,?_⟩,D.bK (λb O=>⟨O.1,LL O.2.1 hs,O.2.2⟩) _ _ (D.bG (λb O=>aj b O.2.1 (.inl O.1)) _ _ ap)⟩;rcases ac.2 with aV|⟨g,cap,cur,bE,j,aW,rest⟩
 .exact .inl aV
 .exact .inr ⟨g,cap,cur,bE,j,(aj g (Array.getElem?_eq_some_iff.1 aW).1 (.inr j)).trans aW,rest⟩
theorem Gr.dr(h:Gr P B e z w A n c l)(hs:w.heap.size<=ab.heap.size)(aj:∀b,b<w.heap.size->(P b\/(Value.slice A n c).ownBlock=some b)->ab.heap[b]?=w.heap[b]?):Gr P B e z ab A n c l:=by
 obtain⟨hl,xs,ac,ap⟩:=h;refine⟨hl,xs,⟨ac.1,?_⟩,D.bK (λb O=>⟨O.1,LL O.2.1 hs,O.2.2⟩) _ _ (D.bG (λb O=>aj b O.2.1 (.inl O.1)) _ _ ap)⟩;rcases ac.2 with aV|⟨g,cap,cur,bE,j,aW,rest⟩
 .exact .inl aV
 .exact .inr ⟨g,cap,cur,bE,j,(aj g (Array.getElem?_eq_some_iff.1 aW).1 (.inr (by rw[bE];rfl))).trans aW,rest⟩
theorem Gr.base{q:Nat}(h:Gr P B e z w A n c l)(aQ:q<=B):Gr P q e z w A n c l:=by
 obtain⟨hl,xs,ac,ap⟩:=h;refine⟨hl,xs,⟨ac.1,?_⟩,ap⟩;rcases ac.2 with aV|⟨g,cap,cur,bE,j,aW,rest⟩
 .exact .inl aV
 .exact .inr ⟨g,cap,cur,bE,ad,aW,rest⟩
theorem Gr.mono(h:Gr P B e z w A n c l)(bg:∀b,b<w.heap.size->P b->Q b):Gr Q B e z w A n c l:=by
 obtain⟨hl,xs,ac,ap⟩:=h;exact⟨hl,xs,ac,D.bK (λb O=>⟨bg b O.2.1 O.1,O.2.1,O.2.2⟩) _ _ ap⟩
theorem Gr.aj(h:Gr P B e z w A n c l)(O:Ext w ab):Gr P B e z ab A n c l:=h.ai O.size λb an _=>O.block b an λh=>h
theorem Gr.cZ(h:Gr P B e z w A n c l)(O:Fr M w ab)(hM:∀b,M b->b<w.heap.size->¬P b/\b<B):Gr P B e z ab A n c l:=
 h.ai O.size λb an hp=>O.block b an λhm=>by
  obtain⟨ac,ap⟩:=hM b hm an;rcases hp with hp|hp
  .exact ac hp
  .omega
theorem Gr.sl(h:Gr P B e z w A n c l)(bg:∀b,b<w.heap.size->P b->Q b)(aQ:∀b,b<w.heap.size->B<=b->Q b):Sl w Q A n l:=by
 obtain⟨hl,xs,ac,ap⟩:=h;exact Sl.mQ ac (D.bK (λb O=>bg b O.2.1 O.1) _ _ ap) hl λg _ ac ap=>aQ g ap ac
end
abbrev dB(S:World)(A:Mt)(n c:Nat)(I:Mt)(a6 aE:Nat):Prop:=∀b,(Value.slice I a6 aE).ownBlock=some b->(Value.slice A n c).ownBlock=some b\/S.heap.size<=b
section
variable {P:Program} {E:Nat->Prop} {B:Nat} {e t:TypeId} {z:Value} {size bytes:Nat}
theorem Gr.snoc{w ab:World}{A I:Mt}{n c aE:Nat}{l:List D}{b0:List Value}{cP:Nat}(hl:l.length=n)(ac:w.ownsRow B e cP (.slice A n c) n xs)(ap:D.aM w (lh E w (.slice A n c)) l xs)
  (hd:d.rep w (lh E w (.slice A n c)) b0) {s:Nat} (hs:w.heap.size<=s) (ao:ab.ownsRow B e cP (.slice I (n+1) aE) (n+1) (xs++b0)) (aR:w.grownBy ab (Value.slice A n c).ownBlock)
  (O:(Value.slice I (n+1) aE).ownBlock=(Value.slice A n c).ownBlock\/(Value.slice I (n+1) aE).ownBlock=some s):Gr E B e cP ab I (n+1) aE (l++[d]):=by
 refine⟨by simp[hl],_,ao,D.cA ?_ (D.bg.2 ?_)⟩
 .refine D.bK (λb a1=>⟨a1.1,LL a1.2.1 aR.size,λhc=>?_⟩) _ _ (D.bG (λb a1=>aR.block b a1.2.1 λhe=>a1.2.2 he.symm) _ _ ap);exact xM
 .refine D.aK (λb a1=>⟨a1.1,LL a1.2.1 aR.size,λhc=>?_⟩) _ _ (D.aS (λb a1=>aR.block b a1.2.1 λhe=>a1.2.2 he.symm) _ _ hd);exact xM
namespace Cn
theorem BI(h:p:=by
 exact h I aE ab (Gr.snoc hl ac ap hd (s:=S.heap.size+1) ad bY aR (by simpa using H)) (Mo.grown aR λg aR=>.inl aR) (λb O=>by
  rcases H with H|H
  .rw[H] at O;exact .inl O
  .rw[H] at O;injection O with O;right;simp at O;omega) hc
 ):p:=h
end Cn
open Cn in
theorem qS{Q:Exit->Act->World->Prop}(bG:cn P t e z size bytes)(s x:Operand)
  (bn:o.op=.call {callee:=.builtin .append,args:=#[s,x],argTypes:=#[t,t]})
  {A:Mt} {n c:Nat} {l:List D} (h0:Gr E B e size S A n c l) {d:D} {cs:Array Value} (hd:d.rep S (lh E S (.slice A n c)) cs.toList)
  (hs:a.eval s=.slice A n c) (hx:a.eval x=.slice (some ⟨S,0,none⟩) 1 1) (T:cs.size=size)
  (r:(n+1)*bytes<=140737488355328) (y:n+1<=140737488355328) (C:B<=S.heap.size)
  (h:∀I aE ab,Gr E B e size ab I (n+1) aE (l++[d])->Fr (λb=>(Value.slice A n c).ownBlock=some b) S ab->dB S A n c I (n+1) aE->n+1<=aE->K (a.put o.dst (.slice I (n+1) aE)) ab):o.wp P a (S.alloc (.cells cs e)) K Q:=by
 obtain⟨hl,xs,ac,ap⟩:=h0;refine km _ bG s x bn B _ n xs hs (ac.alloc _) _ 1 1 cs.toList hx (Src.block (heap_alloc_new S _) 1 ad (D.tk _ _ hd)) r y (by simp;omega) (λh=>nomatch h) λG ab bY b9 H=>?_;exact BH
theorem bL{ops:Array Oper}{rest:List Oper}{Q:Exit->Act->World->Prop}(bG:cn P t e z size bytes)(i:o.guard=none)(s x:Operand)
  (bn:o.op=.call {callee:=.builtin .append,args:=#[s,x],argTypes:=#[t,t]})
  {A:Mt} {n c:Nat} {l:List D} (h0:Gr E B e size S A n c l) {d:D} {cs:Array Value} (hd:d.rep S (lh E S (.slice A n c)) cs.toList)
  (hs:a.eval s=.slice A n c) (hx:a.eval x=.slice (some ⟨S,0,none⟩) 1 1) (T:cs.size=size)
  (r:(n+1)*bytes<=140737488355328) (y:n+1<=140737488355328) (C:B<=S.heap.size)
  (h:∀I aE ab,Gr E B e size ab I (n+1) aE (l++[d])->Fr (λb=>(Value.slice A n c).ownBlock=some b) S ab->dB S A n c I (n+1) aE->n+1<=aE->wpList P ops Q rest (a.put o.dst (.slice I (n+1) aE)) ab):wpList P ops Q (o::rest) a (S.alloc (.cells cs e)):=
 wpList_plain i λ_ hK=>qS bG s x bn h0 hd hs hx T r y C λI aE ab bT g2 cP db=>hK _ _ (h I aE ab bT g2 cP db)
theorem Gr.HS{w ab:World}{A I:Mt}{n m c aE:Nat}{l k:List D}{b0:List Value}{cP:Nat}(hl:l.length=n)(hm:k.length=m)(ac:w.ownsRow B e cP (.slice A n c) n xs)(ap:D.aM w (lh E w (.slice A n c)) l xs)
  (hd:D.aM w (lh E w (.slice A n c)) k b0) {s:Nat} (hs:w.heap.size<=s) (ao:ab.ownsRow B e cP (.slice I (n+m) aE) (n+m) (xs++b0)) (aR:w.grownBy ab (Value.slice A n c).ownBlock)
  (O:(Value.slice I (n+m) aE).ownBlock=(Value.slice A n c).ownBlock\/(Value.slice I (n+m) aE).ownBlock=some s):Gr E B e cP ab I (n+m) aE (l++k):=by
 refine⟨by simp[hl,hm],_,ao,D.cA ?_ ?_⟩
 .refine D.bK (λb a1=>⟨a1.1,LL a1.2.1 aR.size,λhc=>?_⟩) _ _ (D.bG (λb a1=>aR.block b a1.2.1 λhe=>a1.2.2 he.symm) _ _ ap);exact xM
 .refine D.bK (λb a1=>⟨a1.1,LL a1.2.1 aR.size,λhc=>?_⟩) _ _ (D.bG (λb a1=>aR.block b a1.2.1 λhe=>a1.2.2 he.symm) _ _ hd);exact xM
theorem FK{Q:Exit->Act->World->Prop}(bG:cn P t e z size bytes)(s x:Operand)
  (bn:o.op=.call {callee:=.builtin .append,args:=#[s,x],argTypes:=#[t,t]})
  {A A2:Mt} {n c m c2:Nat} {l k:List D} (h0:Gr E B e size S A n c l) (aj:Sl S (lh E S (.slice A n c)) A2 m k) (aL:∀d∈k,d.sz=size)
  (hs:a.eval s=.slice A n c) (hx:a.eval x=.slice A2 m c2)
  (r:(n+m)*bytes<=140737488355328) (y:n+m<=140737488355328) (C:B<=S.heap.size)
  (h:∀I aE ab,Gr E B e size ab I (n+m) aE (l++k)->Fr (λb=>(Value.slice A n c).ownBlock=some b) S ab->dB S A n c I (n+m) aE->n+m<=aE->K (a.put o.dst (.slice I (n+m) aE)) ab):o.wp P a S K Q:=by
 obtain⟨hl,xs,ac,ap⟩:=h0;obtain⟨b0,a5,aA⟩:=aj.src aL;refine km _ bG s x bn B _ n xs hs ac _ m c2 b0 hx aA r y C (λh=>(by subst h;exact aj.none_)) λG ab bY b9 H=>?_;obtain⟨I,aE,rfl,hc,_⟩:=bT bY;exact h I aE ab (Gr.HS hl aj.1 ac ap a5 (s:=S.heap.size) (LK _) bY b9 H) (Mo.grown b9 λg aR=>.inl aR) (λb O=>by
  rcases H with H|H
  .rw[H] at O;exact .inl O
  .rw[H] at O;injection O with O;right;omega) hc
theorem xz{ops:Array Oper}{rest:List Oper}{Q:Exit->Act->World->Prop}(bG:cn P t e z size bytes)(i:o.guard=none)(s x:Operand)
  (bn:o.op=.call {callee:=.builtin .append,args:=#[s,x],argTypes:=#[t,t]})
  {A A2:Mt} {n c m c2:Nat} {l k:List D} (h0:Gr E B e size S A n c l) (aj:Sl S (lh E S (.slice A n c)) A2 m k) (aL:∀d∈k,d.sz=size)
  (hs:a.eval s=.slice A n c) (hx:a.eval x=.slice A2 m c2)
  (r:(n+m)*bytes<=140737488355328) (y:n+m<=140737488355328) (C:B<=S.heap.size)
  (h:∀I aE ab,Gr E B e size ab I (n+m) aE (l++k)->Fr (λb=>(Value.slice A n c).ownBlock=some b) S ab->dB S A n c I (n+m) aE->n+m<=aE->wpList P ops Q rest (a.put o.dst (.slice I (n+m) aE)) ab):wpList P ops Q (o::rest) a S:=
 wpList_plain i λ_ hK=>FK bG s x bn h0 aj aL hs hx r y C λI aE ab bT g2 cP db=>hK _ _ (h I aE ab bT g2 cP db)
end
structure lA(B:Nat)(e1:TypeId)(bu:Nat)(e2:TypeId)(bp:Nat)(w:World)(A:Mt)(n c:Nat)(l:List D)(I:Mt)(a6 aE:Nat)(aP:List D):Prop where
 one:Gr (λb=>B<=b/\(Value.slice I a6 aE).ownBlock≠some b) B e1 bu w A n c l
 two:Gr (λb=>B<=b/\(Value.slice A n c).ownBlock≠some b) B e2 bp w I a6 aE aP
 ne:∀b,(Value.slice A n c).ownBlock=some b->(Value.slice I a6 aE).ownBlock≠some b
section
variable {B:Nat} {e1 e2:TypeId} {bu bp:Nat} {w ab:World} {A I A2:Mt} {n c a6 aE n2 c2:Nat} {l aP c7:List D}
theorem lA.nil(B:Nat)(e1:TypeId)(bu:Nat)(e2:TypeId)(bp:Nat)(w:World):lA B e1 bu e2 bp w none 0 0 [] none 0 0 []:=⟨Gr.nil _ _ _ _ _,Gr.nil _ _ _ _ _,λb h=>by cases h⟩
theorem lA.swap(h:lA B e1 bu e2 bp w A n c l I a6 aE aP):lA B e2 bp e1 bu w I a6 aE aP A n c l:=⟨h.two,h.one,λb ac ap=>h.ne b ap ac⟩
theorem lA.cZ(h:lA B e1 bu e2 bp w A n c l I a6 aE aP)(O:Fr M w ab)(hM:∀b,M b->b<w.heap.size->b<B):lA B e1 bu e2 bp ab A n c l I a6 aE aP:=by
 refine⟨h.one.dr O.size λb an hp=>O.block b an λhm=>?_,h.two.dr O.size λb an hp=>O.block b an λhm=>?_,h.ne⟩
 .have:=hM b hm an;rcases hp with hp|hp
  .have:=hp.1;omega
  .have:=(h.one.lt hp).1;omega
 .have:=hM b hm an;rcases hp with hp|hp
  .have:=hp.1;omega
  .have:=(h.two.lt hp).1;omega
theorem lA.aj(h:lA B e1 bu e2 bp w A n c l I a6 aE aP)(O:Ext w ab):lA B e1 bu e2 bp ab A n c l I a6 aE aP:=h.cZ O λ_ h _=>h.elim
theorem lA.grow(h:lA B e1 bu e2 bp w A n c l I a6 aE aP)(aR:Gr (λb=>B<=b/\(Value.slice I a6 aE).ownBlock≠some b) B e1 bu ab A2 n2 c2 c7)(J:Fr (λb=>(Value.slice A n c).ownBlock=some b) w ab)(bn:dB w A n c A2 n2 c2) :
  lA B e1 bu e2 bp ab A2 n2 c2 c7 I a6 aE aP:=by
 have ac:Gr (λb=>(B<=b/\(Value.slice A n c).ownBlock≠some b)/\(Value.slice A2 n2 c2).ownBlock≠some b) B e2 bp w I a6 aE aP:=h.two.mono λb an hp=>⟨hp,λO=>by
  rcases bn b O with ac|ac
  .exact hp.2 ac
  .omega⟩
 have ap:=ac.dr J.size λb an hp=>J.block b an λhm=>by
  rcases hp with hp|hp
  .exact hp.1.2 hm
  .exact h.ne b hm hp
 refine⟨aR,ap.mono λb _ hp=>⟨hp.1.1,hp.2⟩,λb O ap=>?_⟩;rcases bn b O with ac|ac
 .exact h.ne b ac ap
 .have:=(h.two.lt ap).2;omega
end
theorem Gr.lit{P:Nat->Prop}{w:World}{e:TypeId}{z n:Nat}{cs:Array Value}{l:List D}(hl:l.length=n)(T:cs.size=n*z)(hn:n<=1000000)(a5:D.aM w (λb=>P b/\b<w.heap.size) l cs.toList):
  Gr P w e z (w.alloc (.cells cs e)) (some ⟨w,0,none⟩) n n l:=by
 refine⟨hl,cs.toList,World.ownsRow_lit w _ n (LK _) (by unfold maxLen;omega) T,?_⟩;refine D.bK (λb O=>⟨O.1,by have:=O.2;simp;omega,λhc=>?_⟩) _ _ (D.bG (λb O=>Below.heap_alloc w _ b O.2) _ _ a5);simp[Value.ownBlock] at hc;have:=O.2;omega
def rJ(g:Nat):World->Nat->List Value->World
 | V,_,[]=>V
 | V,i,v::vs=>rJ g (V.setCell ⟨g,i,none⟩ v) (i+1) vs
def jg:Array Value->Nat->List Value->Array Value
 | cs,_,[]=>cs
 | cs,i,v::vs=>jg (cs.setIfInBounds i v) (i+1) vs
theorem mj:∀(vs:List Value) (i:Nat) (cs:Array Value),i+vs.length<=cs.size->(jg cs i vs).toList=cs.toList.take i++vs++cs.toList.drop (i+vs.length)
 | [],i,cs,_=>by simp[jg]
 | v::vs,i,cs,h=>by
  simp only[LZ] at h;rw[jg,mj vs (i+1) _ (by simp;omega),Array.toList_setIfInBounds];have aX:i<cs.toList.length:=by simp;omega
  rw[List.take_succ_eq_append_getElem (by simpa using aX),List.take_set_of_le (LK _),List.drop_set_of_lt ad];simp[Nat.add_assoc,Nat.add_comm 1]
theorem la{g:Nat}{t:TypeId}:∀(vs:List Value) (i:Nat) (V:World) (cs:Array Value),au V g t cs->au (rJ g V i vs) g t (jg cs i vs)
 | [],_,_,_,h=>h
 | _::vs,i,_,_,h=>la vs (i+1) _ _ (h.aN i _)
theorem mI{g:Nat}:∀(vs:List Value) (i:Nat) (V:World),Fr (λb=>b=g) V (rJ g V i vs)
 | [],_,_=>Mo
 | _::vs,i,_=>Fr.trans ((Fr.refl (λb=>b=g) _).setCell (.inl rfl) _) (mI vs (i+1) _)
theorem bA{w X V:World}{g:Nat}{t:TypeId}{cs:Array Value}(vs:List Value)(hs:cs.size=vs.length)(aQ:au V g t cs)(aw:Ext w V)(aR:w.heap.size<=g)(hX:rJ g V 0 vs=X):
  au X g t vs.toArray/\Ext w X/\Fr (λb=>b=g) V X:=by
 subst hX;have J:=mI (g:=g) vs 0 V;refine⟨?_,Fr.low (M:=λb=>b=g) (Fr.trans (Fr.mono aw λ_ h=>h.elim) J) λk aj=>by subst aj;exact aR,J⟩;have ac:=la vs 0 V cs aQ;have ap:jg cs 0 vs=vs.toArray:=by
  apply Array.toList_inj.1
  rw[mj vs 0 cs ad];simp;omega
 rwa [ap] at ac
section
variable {P:Program} {E:Nat->Prop} {B:Nat} {e t:TypeId} {z:Value} {size bytes:Nat}
theorem fo{Q:Exit->Act->World->Prop}(bG:cn P t e z size bytes)(s x:Operand)
  (bn:o.op=.call {callee:=.builtin .append,args:=#[s,x],argTypes:=#[t,t]})
  {A:Mt} {n c g:Nat} {l:List D} (h0:Gr E B e size S A n c l) {d:D} {cs:Array Value} {f:TypeId} (aQ:au S g f cs) (hd:d.rep S (lh E S (.slice A n c)) cs.toList)
  (hs:a.eval s=.slice A n c) (hx:a.eval x=.slice (some ⟨g,0,none⟩) 1 1) (T:cs.size=size)
  (r:(n+1)*bytes<=140737488355328) (y:n+1<=140737488355328) (C:B<=S.heap.size)
  (h:∀I aE ab,Gr E B e size ab I (n+1) aE (l++[d])->Fr (λb=>(Value.slice A n c).ownBlock=some b) S ab->dB S A n c I (n+1) aE->n+1<=aE->K (a.put o.dst (.slice I (n+1) aE)) ab):o.wp P a S K Q:=by
 obtain⟨hl,xs,ac,ap⟩:=h0;have aA:Src S size (some ⟨g,0,none⟩) 1 cs.toList:=⟨by simpa using T,D.tk _ _ hd,λ_=>⟨g,0,rfl,λj u bd=>by
  rw[L8,aQ.cell];simpa using bd⟩⟩
 refine km _ bG s x bn B _ n xs hs ac _ 1 1 cs.toList hx aA r y C (λh=>nomatch h) λG ab bY b9 H=>?_;obtain⟨I,aE,rfl,hc,_⟩:=bT bY;refine h I aE ab (Gr.snoc hl ac ap hd (s:=S.heap.size) (LK _) bY b9 H) (Mo.grown b9 λg aR=>.inl aR) (λb O=>?_) hc;exact z1
theorem xA{Q:Exit->Act->World->Prop}(bG:cn P t e z size bytes)(s x:Operand)
  (bn:o.op=.call {callee:=.builtin .append,args:=#[s,x],argTypes:=#[t,t]})
  {A A2:Mt} {n c m c2:Nat} {l k:List D} {b0:List Value} (h0:Gr E B e size S A n c l) (a5:D.aM S (lh E S (.slice A n c)) k b0) (aj:k.length=m) (aA:Src S size A2 m b0) (hn:A2=none->m=0)
  (hs:a.eval s=.slice A n c) (hx:a.eval x=.slice A2 m c2)
  (r:(n+m)*bytes<=140737488355328) (y:n+m<=140737488355328) (C:B<=S.heap.size)
  (h:∀I aE ab,Gr E B e size ab I (n+m) aE (l++k)->Fr (λb=>(Value.slice A n c).ownBlock=some b) S ab->dB S A n c I (n+m) aE->n+m<=aE->K (a.put o.dst (.slice I (n+m) aE)) ab):o.wp P a S K Q:=by
 obtain⟨hl,xs,ac,ap⟩:=h0;refine km _ bG s x bn B _ n xs hs ac _ m c2 b0 hx aA r y C hn λG ab bY b9 H=>?_;obtain⟨I,aE,rfl,hc,_⟩:=bT bY;refine h I aE ab (Gr.HS hl aj ac ap a5 (s:=S.heap.size) (LK _) bY b9 H) (Mo.grown b9 λg aR=>.inl aR) (λb O=>?_) hc;exact z1
theorem qR{ops:Array Oper}{rest:List Oper}{Q:Exit->Act->World->Prop}(bG:cn P t e z size bytes)(i:o.guard=none)(s x:Operand)
  (bn:o.op=.call {callee:=.builtin .append,args:=#[s,x],argTypes:=#[t,t]})
  {A A2:Mt} {n c m c2:Nat} {l k:List D} {b0:List Value} (h0:Gr E B e size S A n c l) (a5:D.aM S (lh E S (.slice A n c)) k b0) (aj:k.length=m) (aA:Src S size A2 m b0) (hn:A2=none->m=0)
  (hs:a.eval s=.slice A n c) (hx:a.eval x=.slice A2 m c2)
  (r:(n+m)*bytes<=140737488355328) (y:n+m<=140737488355328) (C:B<=S.heap.size)
  (h:∀I aE ab,Gr E B e size ab I (n+m) aE (l++k)->Fr (λb=>(Value.slice A n c).ownBlock=some b) S ab->dB S A n c I (n+m) aE->n+m<=aE->wpList P ops Q rest (a.put o.dst (.slice I (n+m) aE)) ab):wpList P ops Q (o::rest) a S:=
 wpList_plain i λ_ hK=>xA bG s x bn h0 a5 aj aA hn hs hx r y C λI aE ab bT g2 cP db=>hK _ _ (h I aE ab bT g2 cP db)
theorem ju{Q:Exit->Act->World->Prop}(bG:cn P t e z size bytes)(s x:Operand)
  (bn:o.op=.call {callee:=.builtin .append,args:=#[s,x],argTypes:=#[t,t]})
  {A2:Mt} {g m c2:Nat} {k:List D} {b0:List Value} (h0:Gr E B e size S (some ⟨g,0,none⟩) 0 0 []) (a5:D.aM S (lh E S (.slice (some ⟨g,0,none⟩) 0 0)) k b0) (aj:k.length=m) (aA:Src S size A2 m b0) (hn:A2=none->m=0)
  (hs:a.eval s=.slice (some ⟨g,0,none⟩) 0 0) (hx:a.eval x=.slice A2 m c2)
  (r:m*bytes<=140737488355328) (y:m<=140737488355328) (C:B<=S.heap.size)
  (h:∀I aE ab,Gr E B e size ab I m aE k->Fr (λb=>b=g) S ab->(∀b,(Value.slice I m aE).ownBlock=some b->b=g\/S.heap.size<=b)->m<=aE->K (a.put o.dst (.slice I m aE)) ab):o.wp P a S K Q:=by
 refine xA bG s x bn h0 a5 aj aA hn hs hx (by rw[L8];exact r) ad C λI aE ab bT g2 cP db=>?_;simp only[L8,Mh] at bT cP db ⊢;exact h I aE ab bT (g2.mono λb O=>by simp[Value.ownBlock] at O;exact O.symm) (λb O=>(cP b O).imp (λh=>by simp[Value.ownBlock] at h;exact h.symm) id) db
end
section
variable {P:Program} {ops:Array Oper} {Q:Exit->Act->World->Prop} {R:World->World->Prop} {tails:List Nat}
theorem iT{δ:Type}{aa:α->β->γ->δ->Act}{C:α->β->γ->δ->World->Prop}(h:(∀x y z u V,C x y z u V->cS P ops Q R tails rest (aa x y z u) V)->G)(key:∀x y z u V,C x y z u V->cS P ops Q R tails rest (aa x y z u) V):G:=h key
theorem g9{aa:α->β->γ->Act}{C:α->β->γ->World->Prop}(h:(∀x y z V,C x y z V->cS P ops Q R tails rest (aa x y z) V)->G)(key:∀x y z V,C x y z V->cS P ops Q R tails rest (aa x y z) V):G:=h key
theorem qM{aa:α->β->Act}{C:α->β->World->Prop}(h:(∀x y V,C x y V->cS P ops Q R tails rest (aa x y) V)->G)(key:∀x y V,C x y V->cS P ops Q R tails rest (aa x y) V):G:=h key
theorem xq{aa:α->Act}{C:α->World->Prop}(h:(∀x V,C x V->cS P ops Q R tails rest (aa x) V)->G)(key:∀x V,C x V->cS P ops Q R tails rest (aa x) V):G:=h key
end
theorem Ix{w a b:World}(ac:Ext w a)(ap:Ext w b)(hs:a.heap.size=w.heap.size+1)(bS:a.heap.size<=b.heap.size):Fr (λk=>k=w.heap.size) a b:=
 ⟨ap.os.trans ac.os.symm,ap.tape.trans ac.tape.symm,ap.output.trans ac.output.symm,bS,λk aj hn=>(ap.block k ad λh=>h).trans (ac.block k ad λh=>h).symm⟩
theorem wv{P:Nat->Prop}{w ab:World}{v:Value}(h:d.rep w (lh P w v) cs)(he:Ext w ab):d.rep ab (lh P ab v) cs:=
 D.aK (λb O=>⟨O.1,LL O.2.1 he.size,O.2.2⟩) _ _ (D.aS (λb O=>he.block b O.2.1 λh=>h) _ _ h)
end Go.Proofs.YtpkfopfkdgkfkaaGreat

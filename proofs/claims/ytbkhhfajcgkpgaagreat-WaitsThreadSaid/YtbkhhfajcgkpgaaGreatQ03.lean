/- Part 3 of the proof. No condition of its own. -/
import Derived.Test.YtbkhhfajcgkpgaaGreatQ02
namespace Go.Proofs.YtbkhhfajcgkpgaaGreat
open Go.RowKit Go.Proofs.Tryz
set_option maxRecDepth 1000000
set_option maxHeartbeats 25600000
set_option linter.unusedVariables false
variable{g l:List Int}{cs:List Value}{B n s:Nat}{A:Kr}{p:Prop}{x:VE}{a ac b w:World}
section
attribute [local go_sem ↓] fW fX
structure lr(w:World)(G L:Kr)(ng nl:Nat)(g l:List Int)(e:VE)(cs:List Value):Prop where
 gs:cC (EF b2) 1 w w.heap.size G ng g
 ls:cC (EF b2) 1 w w.heap.size L nl l
 ok:e.ok ng nl
 rep:e.at_ w cs
theorem lr.on{G L:Kr}{ng nl:Nat}{e:VE}(h:lr w G L ng nl g l e cs)(O:Below w.heap.size w ac):lr ac G L ng nl g l e cs:=
 ⟨h.gs.cO O O.size,h.ls.cO O O.size,h.ok,VE.Hq h.rep O⟩
def je(e:VE):Prop:=∀(w:World) (G L:Kr) (ng nl cg cl:Nat) (g l:List Int) (c0 c1 c2 c3:Value),lr w G L ng nl g l e [c0,c1,c2,c3]→
 Calls prog 117 #[.agg #[.slice G ng cg,.slice L nl cl],.agg #[c0,c1,c2,c3]] w (fH w (ev g l e))
def jC(e:VE):Prop:=∀(w:World) (G L:Kr) (ng nl cg cl:Nat) (g l:List Int) (c0 c1 c2 c3:Value),lr w G L ng nl g l e [c0,c1,c2,c3]→
 Calls prog 138 #[.agg #[.slice G ng cg,.slice L nl cl],.agg #[c0,c1,c2,c3]] w (fH w (ev g l e))
def oH(e:VE):Prop:=∀(w:World) (G L:Kr) (ng nl cg cl:Nat) (g l:List Int) (c0 c1 c2 c3:Value),lr w G L ng nl g l e [c0,c1,c2,c3]→
 Calls prog 139 #[.agg #[.slice G ng cg,.slice L nl cl],.agg #[c0,c1,c2,c3]] w (fH w (ev g l e))
theorem lC(a b:Obj):Below w.heap.size w ((w.alloc a).alloc b):=((Below.refl _ _).alloc (JQ _) _).alloc (by simp) _
theorem vX(n:Int):jC (.num n):=by
 intro w G L ng nl cg cl g l c0 c1 c2 c3 h;obtain⟨nm,A,c,T⟩:=h.rep;injection T with h0 T;injection T with ae T;injection T with aC T;injection T with aT T;subst h0 ae aC aT;clear h T;go_enter func138,ntmps138;go_wp2
 go_ret2
 exact fH.mk' rfl (lC _ _)
namespace AM
theorem An(h:p:=by
 have t:=ad bz;clear aK e0 e1 e2 e3 bz;have aj:∀V:World,Below W.heap.size W V→V.cell? ⟨w.heap.size,0,none⟩=some (.slice G ng cg)∧V.cell? ⟨w.heap.size,1,none⟩=some (.slice L nl cl)∧V.cell? ⟨w.heap.size+1,0,none⟩=some (.int .i64 op)∧V.cell? ⟨w.heap.size+1,3,none⟩=some (.slice (some ⟨b,o,none⟩) 1 c)∧
   V.cell? ⟨b,o,none⟩=some br∧V.cell? ⟨b,o+1,none⟩=some Z∧V.cell? ⟨b,o+2,none⟩=some ax∧V.cell? ⟨b,o+3,none⟩=some E:=fun V hV=>by
  have U:=t.o;have an:b<W.heap.size:=by have:=O;omega
  exact⟨(hV.cell (p:=⟨w.heap.size,0,none⟩) (by simp only[];omega)).trans a0,(hV.cell (p:=⟨w.heap.size,1,none⟩) (by simp only[];omega)).trans z,(hV.cell (p:=⟨w.heap.size+1,0,none⟩) (by simp only[];omega)).trans a6,(hV.cell (p:=⟨w.heap.size+1,3,none⟩) (by simp only[];omega)).trans i,
   (hV.cell (p:=⟨b,o,none⟩) an).trans d0,(hV.cell (p:=⟨b,o+1,none⟩) an).trans d1,(hV.cell (p:=⟨b,o+2,none⟩) an).trans d2,(hV.cell (p:=⟨b,o+3,none⟩) an).trans d3⟩
 have cm:=ad aj;clear aj a0 z a6 i d0 d1 d2 d3;go_region_held3 (fun V=>V.cell? ⟨w.heap.size,0,none⟩=some (.slice G ng cg)∧V.cell? ⟨w.heap.size,1,none⟩=some (.slice L nl cl)∧V.cell? ⟨w.heap.size+1,0,none⟩=some (.int .i64 op)∧V.cell? ⟨w.heap.size+1,3,none⟩=some (.slice (some ⟨b,o,none⟩) 1 c)∧
   V.cell? ⟨b,o,none⟩=some br∧V.cell? ⟨b,o+1,none⟩=some Z∧V.cell? ⟨b,o+2,none⟩=some ax∧V.cell? ⟨b,o+3,none⟩=some E)
  (first|exact cm.o _ (Below.refl _ _)|exact cm.o _ (Below.refl _ _).drew|exact cm.o _ bx)
  (first|(go_at_call 117;refine(b9.o _ G L ng nl cg cl g l br Z ax E ?_).mono ?_;(exact bg.on (Below.refl _ _).drew);rintro r ac ⟨rfl,d⟩;have bx:Below W.heap.size W ac:=(Below.refl W.heap.size W).drew.trans d;clear d))
 have aD:=(f.trans (bx.mono f.size))
 have a2:=ad (show ev g l (.un op x)=if (ev g l x).2≠0 then (0,(ev g l x).2) else if op=3 then (wrap64 (-(ev g l x).1),0) else (eV ((ev g l x).1 == 0),0) from rfl);generalize ev g l x=r1 at *;obtain⟨v1,f1⟩:=r1;clear cm b9 bg;by_cases N:f1=0
 case neg=>
  have q1:(f1 != 0)=true:=by simpa using N
  have J:=ad (show ev g l (.un op x)=(0,f1) by rw[a2.o];simp[N]);clear N;go_wp2
  go_ret2
  exact fH.mk' J.o aD
 have q1:(f1 != 0)=false:=by simpa using N
 rcases bj.o with aT|a9
 ·have J:=ad (show ev g l (.un op x)=(wrap64 (-v1),0) by rw[a2.o];simp[N,aT]);subst aT;clear N;go_wp2
  go_ret2
  exact fH.mk' J.o aD
 ·have J:=ad (show ev g l (.un op x)=(eV (v1 == 0),0) by rw[a2.o];simp[N,a9]);subst a9;clear N;go_wp2_with((go_at_call 151;refine(jW _ _).mono ?_;rintro e ac ⟨rfl,rfl⟩))
  go_ret2
  exact fH.mk' J.o aD
 ):p:=h
theorem zV(h:p:=by
 obtain⟨b9,bj⟩:=aM K aE;clear h hx K;have b7:(op == 1)=false:=by simp;omega
 have g2:(op == 18)=false:=by simp;omega
 have ca:(op == 19)=false:=by simp;omega
 clear aE;go_enter func138,ntmps138;go_wp2;have f:=lC (w:=w) (.cells #[.slice G ng cg,.slice L nl cl] 202) (.cells #[.int .i64 op,.int .i64 n,.string nm,.slice (some ⟨b,o,none⟩) 1 c] 57);have a0:((w.alloc (.cells #[.slice G ng cg,.slice L nl cl] 202)).alloc (.cells #[.int .i64 op,.int .i64 n,.string nm,.slice (some ⟨b,o,none⟩) 1 c] 57)).cell? ⟨w.heap.size,0,none⟩=some (.slice G ng cg):=by simp[go_sem]
 have z:((w.alloc (.cells #[.slice G ng cg,.slice L nl cl] 202)).alloc (.cells #[.int .i64 op,.int .i64 n,.string nm,.slice (some ⟨b,o,none⟩) 1 c] 57)).cell? ⟨w.heap.size,1,none⟩=some (.slice L nl cl):=by simp[go_sem]
 have a6:((w.alloc (.cells #[.slice G ng cg,.slice L nl cl] 202)).alloc (.cells #[.int .i64 op,.int .i64 n,.string nm,.slice (some ⟨b,o,none⟩) 1 c] 57)).cell? ⟨w.heap.size+1,0,none⟩=some (.int .i64 op):=by simp[go_sem]
 have i:((w.alloc (.cells #[.slice G ng cg,.slice L nl cl] 202)).alloc (.cells #[.int .i64 op,.int .i64 n,.string nm,.slice (some ⟨b,o,none⟩) 1 c] 57)).cell? ⟨w.heap.size+1,3,none⟩=some (.slice (some ⟨b,o,none⟩) 1 c):=by simp[go_sem]
 have bz:((w.alloc (.cells #[.slice G ng cg,.slice L nl cl] 202)).alloc (.cells #[.int .i64 op,.int .i64 n,.string nm,.slice (some ⟨b,o,none⟩) 1 c] 57)).heap.size=w.heap.size+2:=by simp
 generalize (w.alloc (.cells #[.slice G ng cg,.slice L nl cl] 202)).alloc (.cells #[.int .i64 op,.int .i64 n,.string nm,.slice (some ⟨b,o,none⟩) 1 c] 57)=W at *;have bg:=aK.on f;exact Am
 ):p:=h
end AM
open AM in
theorem yp(op:Int)(x:VE)(K:je x):jC (.un op x):=by
 intro w G L ng nl cg cl g l c0 c1 c2 c3 h;exact zU
theorem qf(e:VE)(k:Int)(he:e=.loc k∨e=.ia k):jC e:=by
 intro w G L ng nl cg cl g l c0 c1 c2 c3 h;have a:=lC (w:=w) (.cells #[.slice G ng cg,.slice L nl cl] 202) (.cells #[c0,c1,c2,c3] 57);have a4:=h.gs.cO a a.size;have y:=h.ls.cO a a.size;clear a;have b9:=h.ok;rcases he with rfl|rfl
 all_goals
  obtain⟨nm,A,c,T⟩:=h.rep;injection T with h0 T;injection T with ae T;injection T with aC T;injection T with aT T;subst h0 ae aC aT;clear h T;obtain⟨I,cd⟩:=b9;go_enter func138,ntmps138;go_wp2_with(fail)
  first
  | refine(nz L nl cl l k _ y I cd).mono ?_
  | refine(nz G ng cg g k _ a4 I cd).mono ?_
  rintro e ac ⟨rfl,rfl⟩;go_wp2
  go_ret2
  exact fH.mk' rfl (lC _ _)
namespace AN
theorem z7(h:p:=by
 obtain⟨HA,bj⟩:=aM aV a8;clear a2;have split:(op == 16)=true∧(v1 == 0)=false∧(op == 17)=false∨(op == 16)=false∧(op == 17)=true∧(v1 != 0)=false∨(op == 16)=false∧(op == 17)=false:=by
  exact Fp
 clear aV a8;have bu:=ad split;clear split;rcases bu.o with⟨bq,a9,cH⟩|⟨bq,a9,cH⟩|⟨bq,a9⟩
 all_goals
  go_wp2;go_region_held3 (fun V=>V.cell? ⟨w.heap.size,0,none⟩=some (.slice G ng cg)∧V.cell? ⟨w.heap.size,1,none⟩=some (.slice L nl cl)∧V.cell? ⟨w.heap.size+1,0,none⟩=some (.int .i64 op)∧V.cell? ⟨w.heap.size+1,3,none⟩=some (.slice (some ⟨b,o,none⟩) 2 c)∧V.cell? ⟨b,o,none⟩=some br∧V.cell? ⟨b,o+1,none⟩=some Z∧V.cell? ⟨b,o+2,none⟩=some ax∧V.cell? ⟨b,o+3,none⟩=some E∧V.cell? ⟨b,o+4,none⟩=some cj∧V.cell? ⟨b,o+5,none⟩=some cr∧V.cell? ⟨b,o+6,none⟩=some bm∧V.cell? ⟨b,o+7,none⟩=some aa)
   (first|exact cm.o _ (Below.refl _ _)|exact cm.o _ (Below.refl _ _).drew|exact cm.o _ az|exact cm.o _ bx|exact cm.o _ bx.drew)
   (first|(go_at_call 117;refine(u.o _ G L ng nl cg cl g l cj cr bm aa ?_).mono ?_;(exact(ba.on bx).on (Below.refl _ _).drew);rintro r bU ⟨rfl,d⟩;have az:Below W.heap.size W bU:=bx.drew.trans (d.mono bx.size);clear d))
  have aD:=(f.trans (az.mono f.size))
  generalize ev g l y=gE at *;obtain⟨v2,f2⟩:=gE;by_cases ay:f2=0
  case neg=>
   have cv:(f2 != 0)=true:=by simpa using ay
   have bA:=ad (show ev g l (.bin op x y)=(0,f2) by rw[bl.o];simp[ay]);clear ay;go_wp2
   go_ret2
   exact fH.mk' bA.o aD
  have cv:(f2 != 0)=false:=by simpa using ay
  have bA:=ad (show ev g l (.bin op x y)=if op=16∨op=17 then (eV (v2 != 0),0) else arith op v1 v2 by rw[bl.o];simp[ay]);clear ay bl
  first
  | (have F:=ad (show ev g l (.bin op x y)=(eV (v2 != 0),0) by rw[bA.o,if_pos (by first|exact .inl (by simpa using bq)|exact .inr (by simpa using a9))]);go_wp2_with((go_at_call 151;refine(jW _ _).mono ?_;rintro e ac ⟨rfl,rfl⟩));go_ret2;exact fH.mk' F.o aD)
  | (have a1:op≠16∧op≠17:=⟨by simpa using bq,by simpa using a9⟩;have F:=ad (show ev g l (.bin op x y)=arith op v1 v2 by rw[bA.o,if_neg ab]);go_wp2_with(fail);refine(oW op v1 v2 ab _).mono ?_;rintro e ci ⟨rfl,bI⟩;go_wp2;go_ret2;exact fH.mk' (by rw[F.o]) (aD.trans (bI.mono aD.size)))
 ):p:=h
theorem zH(h:p:=by
 clear b9 bg;by_cases N:f1=0
 case neg=>
  have q1:(f1 != 0)=true:=by simpa using N
  have J:=ad (show ev g l (.bin op x y)=(0,f1) by rw[a2.o];simp[N]);clear N;go_wp2
  go_ret2
  exact fH.mk' J.o aD
 have q1:(f1 != 0)=false:=by simpa using N
 have bK:=ad N;clear N;by_cases aV:op=16∧v1=0
 ·obtain⟨rfl,rfl⟩:=aV;have J:=ad (show ev g l (.bin 16 x y)=(0,0) by rw[a2.o];simp[bK.o]);go_wp2
  go_ret2
  exact fH.mk' J.o aD
 by_cases a8:op=17∧v1≠0
 ·obtain⟨rfl,bD⟩:=a8;have cB:(v1 != 0)=true:=by simpa using bD
  have J:=ad (show ev g l (.bin 17 x y)=(1,0) by rw[a2.o];simp[bK.o,bD]);clear bD;go_wp2
  go_ret2
  exact fH.mk' J.o aD
 exact z6
 ):p:=h
theorem An(h:p:=by
 have d4:=(f.cell (p:=⟨b,o+4,none⟩) O).trans bs;have d5:=(f.cell (p:=⟨b,o+5,none⟩) O).trans cG;have d6:=(f.cell (p:=⟨b,o+6,none⟩) O).trans bG;have d7:=(f.cell (p:=⟨b,o+7,none⟩) O).trans e7;have t:=ad bz;clear aK j e0 e1 e2 e3 bs cG bG e7 bz;have aj:∀V:World,Below W.heap.size W V→V.cell? ⟨w.heap.size,0,none⟩=some (.slice G ng cg)∧V.cell? ⟨w.heap.size,1,none⟩=some (.slice L nl cl)∧V.cell? ⟨w.heap.size+1,0,none⟩=some (.int .i64 op)∧V.cell? ⟨w.heap.size+1,3,none⟩=some (.slice (some ⟨b,o,none⟩) 2 c)∧V.cell? ⟨b,o,none⟩=some br∧V.cell? ⟨b,o+1,none⟩=some Z∧V.cell? ⟨b,o+2,none⟩=some ax∧V.cell? ⟨b,o+3,none⟩=some E∧V.cell? ⟨b,o+4,none⟩=some cj∧V.cell? ⟨b,o+5,none⟩=some cr∧V.cell? ⟨b,o+6,none⟩=some bm∧V.cell? ⟨b,o+7,none⟩=some aa:=fun V hV=>by
  have U:=t.o;have an:b<W.heap.size:=by have:=O;omega
  exact⟨(hV.cell (p:=⟨w.heap.size,0,none⟩) (by simp only[];omega)).trans a0,(hV.cell (p:=⟨w.heap.size,1,none⟩) (by simp only[];omega)).trans z,(hV.cell (p:=⟨w.heap.size+1,0,none⟩) (by simp only[];omega)).trans a6,(hV.cell (p:=⟨w.heap.size+1,3,none⟩) (by simp only[];omega)).trans i,(hV.cell (p:=⟨b,o,none⟩) an).trans d0,(hV.cell (p:=⟨b,o+1,none⟩) an).trans d1,(hV.cell (p:=⟨b,o+2,none⟩) an).trans d2,(hV.cell (p:=⟨b,o+3,none⟩) an).trans d3,(hV.cell (p:=⟨b,o+4,none⟩) an).trans d4,(hV.cell (p:=⟨b,o+5,none⟩) an).trans d5,(hV.cell (p:=⟨b,o+6,none⟩) an).trans d6,(hV.cell (p:=⟨b,o+7,none⟩) an).trans d7⟩
 have cm:=ad aj;clear aj a0 z a6 i d0 d1 d2 d3 d4 d5 d6 d7;go_region_held3 (fun V=>V.cell? ⟨w.heap.size,0,none⟩=some (.slice G ng cg)∧V.cell? ⟨w.heap.size,1,none⟩=some (.slice L nl cl)∧V.cell? ⟨w.heap.size+1,0,none⟩=some (.int .i64 op)∧V.cell? ⟨w.heap.size+1,3,none⟩=some (.slice (some ⟨b,o,none⟩) 2 c)∧V.cell? ⟨b,o,none⟩=some br∧V.cell? ⟨b,o+1,none⟩=some Z∧V.cell? ⟨b,o+2,none⟩=some ax∧V.cell? ⟨b,o+3,none⟩=some E∧V.cell? ⟨b,o+4,none⟩=some cj∧V.cell? ⟨b,o+5,none⟩=some cr∧V.cell? ⟨b,o+6,none⟩=some bm∧V.cell? ⟨b,o+7,none⟩=some aa)
  (first|exact cm.o _ (Below.refl _ _)|exact cm.o _ (Below.refl _ _).drew|exact cm.o _ bx|exact cm.o _ bx|exact cm.o _ bx.drew)
  (first|(go_at_call 117;refine(b9.o _ G L ng nl cg cl g l br Z ax E ?_).mono ?_;(exact bg.on (Below.refl _ _).drew);rintro r aO ⟨rfl,d⟩;have bx:Below W.heap.size W aO:=(Below.refl W.heap.size W).drew.trans (d.mono (JQ _));clear d))
 have aD:=(f.trans (bx.mono f.size))
 exact zG
 ):p:=h
theorem zC(h:p:=by
 obtain⟨b9,u⟩:=aM k s;clear h hx a4 k s;go_enter func139,ntmps139;go_wp2;have f:=lC (w:=w) (.cells #[.slice G ng cg,.slice L nl cl] 202) (.cells #[.int .i64 op,.int .i64 n,.string nm,.slice (some ⟨b,o,none⟩) 2 c] 57);have a0:((w.alloc (.cells #[.slice G ng cg,.slice L nl cl] 202)).alloc (.cells #[.int .i64 op,.int .i64 n,.string nm,.slice (some ⟨b,o,none⟩) 2 c] 57)).cell? ⟨w.heap.size,0,none⟩=some (.slice G ng cg):=by simp[go_sem]
 have z:((w.alloc (.cells #[.slice G ng cg,.slice L nl cl] 202)).alloc (.cells #[.int .i64 op,.int .i64 n,.string nm,.slice (some ⟨b,o,none⟩) 2 c] 57)).cell? ⟨w.heap.size,1,none⟩=some (.slice L nl cl):=by simp[go_sem]
 have a6:((w.alloc (.cells #[.slice G ng cg,.slice L nl cl] 202)).alloc (.cells #[.int .i64 op,.int .i64 n,.string nm,.slice (some ⟨b,o,none⟩) 2 c] 57)).cell? ⟨w.heap.size+1,0,none⟩=some (.int .i64 op):=by simp[go_sem]
 have i:((w.alloc (.cells #[.slice G ng cg,.slice L nl cl] 202)).alloc (.cells #[.int .i64 op,.int .i64 n,.string nm,.slice (some ⟨b,o,none⟩) 2 c] 57)).cell? ⟨w.heap.size+1,3,none⟩=some (.slice (some ⟨b,o,none⟩) 2 c):=by simp[go_sem]
 have bz:((w.alloc (.cells #[.slice G ng cg,.slice L nl cl] 202)).alloc (.cells #[.int .i64 op,.int .i64 n,.string nm,.slice (some ⟨b,o,none⟩) 2 c] 57)).heap.size=w.heap.size+2:=by simp
 generalize (w.alloc (.cells #[.slice G ng cg,.slice L nl cl] 202)).alloc (.cells #[.int .i64 op,.int .i64 n,.string nm,.slice (some ⟨b,o,none⟩) 2 c] 57)=W at *;have bg:=aK.on f;have ba:=j.on f;exact Am
 ):p:=h
end AN
open AN in
theorem vd(op:Int)(x y:VE)(k:je x)(s:je y):oH (.bin op x y):=by
 intro w G L ng nl cg cl g l c0 c1 c2 c3 h;exact zB
theorem mj(e:VE)(S:jC e)(hl:∀w cs,e.at_ w cs→∃op n nm A k c,cs=[.int .i64 op,.int .i64 n,.string nm,.slice A k c]∧k≤1):je e:=by
 intro w G L ng nl cg cl g l c0 c1 c2 c3 h;obtain⟨op,n,nm,A,k,c,T,aj⟩:=hl _ _ h.rep;injection T with h0 T;injection T with ae T;injection T with aC T;injection T with aT T;subst h0 ae aC aT;clear T;have bu:=ad S;clear S hl;have q:((k:Int) == 2)=false:=by simp;omega
 have aq:(k == 2)=false:=by simp;omega
 clear aj;go_enter func117,ntmps117;go_wp2_with(fail);have f:=lC (w:=w) (.cells #[.slice G ng cg,.slice L nl cl] 202) (.cells #[.int .i64 op,.int .i64 n,.string nm,.slice A k c] 57);have aK:=h.on f;clear h;refine(bu.o _ G L ng nl cg cl g l _ _ _ _ aK).mono ?_;rintro r ac ⟨rfl,O⟩;go_wp2
 go_ret2
 exact fH.mk' rfl (f.trans (O.mono f.size))
theorem CB(op:Int)(x y:VE)(S:oH (.bin op x y)):je (.bin op x y):=by
 intro w G L ng nl cg cl g l c0 c1 c2 c3 h;obtain⟨n,nm,b,o,c,br,Z,ax,E,cj,cr,bm,aa,T,_⟩:=h.rep;injection T with h0 T;injection T with ae T;injection T with aC T;injection T with aT T;subst h0 ae aC aT;clear T;have bu:=ad S;clear S;go_enter func117,ntmps117;go_wp2_with(fail);have f:=lC (w:=w) (.cells #[.slice G ng cg,.slice L nl cl] 202) (.cells #[.int .i64 op,.int .i64 n,.string nm,.slice (some ⟨b,o,none⟩) 2 c] 57);have aK:=h.on f;clear h;refine(bu.o _ G L ng nl cg cl g l _ _ _ _ aK).mono ?_;rintro r ac ⟨rfl,O⟩;go_wp2
 go_ret2
 exact fH.mk' rfl (f.trans (O.mono f.size))
theorem om:∀e:VE,je e
 | .num n=>mj _ (vX n) (fun w cs h=>by obtain⟨nm,A,c,rfl⟩:=h;exact⟨_,_,_,_,_,_,rfl,ab⟩)
 | .gy s=>fun w G L ng nl cg cl g l c0 c1 c2 c3 h=>h.ok.elim
 | .loc k=>mj _ (qf _ k (.inl rfl)) (fun w cs h=>by obtain⟨nm,A,c,rfl⟩:=h;exact⟨_,_,_,_,_,_,rfl,ab⟩)
 | .ia k=>mj _ (qf _ k (.inr rfl)) (fun w cs h=>by obtain⟨nm,A,c,rfl⟩:=h;exact⟨_,_,_,_,_,_,rfl,ab⟩)
 | .un op x=>mj _ (yp op x (om x)) (fun w cs h=>by obtain⟨n,nm,b,o,c,br,Z,ax,E,rfl,_⟩:=h;exact⟨_,_,_,_,_,_,rfl,ab⟩)
 | .bin op x y=>CB op x y (vd op x y (om x) (om y))
theorem yB(e:VE)(w:World)(G L:Kr)(ng nl cg cl:Nat)(g l:List Int)(c0 c1 c2 c3:Value)(h:lr w G L ng nl g l e [c0,c1,c2,c3]) :
  Calls prog 94 #[.agg #[c0,c1,c2,c3],.slice G ng cg,.slice L nl cl] w (fH w (ev g l e)):=by
 have a2:=ad (om e);go_enter func94,ntmps94;go_wp2_with(fail);have f:=(Below.refl w.heap.size w).alloc (JQ _) (.cells #[c0,c1,c2,c3] 57);have aK:=h.on f;clear h;refine(a2.o _ G L ng nl cg cl g l _ _ _ _ aK).mono ?_;rintro r ac ⟨rfl,O⟩;go_wp2
 go_ret2
 exact fH.mk' rfl (f.trans (O.mono f.size))
end
def Ha(w:World)(x:VE)(e:Ending)(ac:World):Prop:=∃c0 c1 c2 c3,e=.returned (.agg #[c0,c1,c2,c3])∧x.rep ac (fun b=>w.heap.size≤b∧b<ac.heap.size) [c0,c1,c2,c3]∧Below w.heap.size w ac
theorem Ha.mk'{y:VE}{c0 c1 c2 c3:Value}(hx:x=y)(h:y.rep ac (fun b=>w.heap.size≤b∧b<ac.heap.size) [c0,c1,c2,c3])(O:Below w.heap.size w ac):Ha w x (.returned (.agg #[c0,c1,c2,c3])) ac:=by
 subst hx;exact⟨_,_,_,_,rfl,h,O⟩
def GF(n:Int):VE:=if 0≤n then .num n else .bin 9 (.un 3 (.num (wrap64 (-(wrap64 (n+1)))))) (.num 1)
theorem lr.new(h:x.rep ac (fun b=>B≤b∧b<ac.heap.size) cs)(b9:x.ok 0 0):lr ac none none 0 0 [] [] x cs:=
 ⟨cC.bG _,cC.bG _,b9,VE.aF (fun _ h=>h.2) _ _ h⟩
theorem uB(x:Int):∃k,wrap64 x=x - 18446744073709551616*k:=⟨(x+9223372036854775808) / 18446744073709551616,by unfold wrap64;omega⟩
theorem qp(z m:Int):wrap64 (z - 18446744073709551616*m)=wrap64 z:=by unfold wrap64;omega
theorem n9(x y:Int):wrap64 (wrap64 x*y)=wrap64 (x*y):=by
 obtain⟨k,aj⟩:=uB x;rw[aj,show (x - 18446744073709551616*k)*y=x*y - 18446744073709551616*(k*y) by rw[Int.sub_mul,Int.mul_assoc],qp]
theorem ns(x y:Int):wrap64 (x - wrap64 y)=wrap64 (x - y):=by
 obtain⟨k,aj⟩:=uB y;rw[aj,show x - (y - 18446744073709551616*k)=x - y - 18446744073709551616*(-k) by omega,qp]
section
attribute [local go_sem ↓] fW fX
def Fits(n:Int):Prop:=-9223372036854775808≤n∧n≤9223372036854775807
theorem nU(n:Int):Fits (wrap64 n):=by unfold Fits wrap64;omega
theorem lX(b:Bool):Fits (eV b):=by cases b<;>(unfold Fits eV;decide)
def VE.fit:VE→Prop
 | .num n=>Fits n
 | .gy _=>True
 | .loc _=>True
 | .ia _=>True
 | .un _ x=>x.fit
 | .bin _ x y=>x.fit∧y.fit
theorem rF(a b:Int)(aV:Fits a):Fits (a.tmod b):=by
 have c:=Int.natAbs_tmod a b;have hle:a.natAbs % b.natAbs≤a.natAbs:=Nat.mod_le _ _;rw[←c] at hle;unfold Fits at *;rcases Int.lt_trichotomy a 0 with h|h|h
 ·have aC:=Int.tmod_nonneg b (show 0≤-a by omega);rw[Int.neg_tmod] at aC;generalize a.tmod b=r at *;omega
 ·subst h;simp
 ·have aC:=Int.tmod_nonneg b (show 0≤a by omega);generalize a.tmod b=r at *;omega
theorem h1:Fits 0:=by unfold Fits;decide
theorem C4:Fits 1:=by unfold Fits;decide
theorem u7(op a b:Int)(aV:Fits a):Fits (arith op a b).1:=by
 unfold arith
 repeat' split
 all_goals first|exact nU _|exact lX _|exact rF _ _ aV|exact h1
theorem rb(aJ:∀x∈g,Fits x)(k:Nat):Fits (g.getD k 0):=by
 rw[List.getD_eq_getElem?_getD]
 cases h:g[k]? with
 | none=>exact h1
 | some v=>exact aJ v (JT h)
theorem se{g l:List Int}(aJ:∀x∈g,Fits x)(hl:∀x∈l,Fits x):∀e:VE,e.fit→Fits (ev g l e).1
 | .num _,h=>h
 | .gy _,_=>h1
 | .loc _,_=>rb hl _
 | .ia _,_=>rb aJ _
 | .un op x,_=>by
  rw[ev]
  repeat' split
  all_goals first|exact h1|exact nU _|exact lX _
 | .bin op x y,h=>by
  rw[ev]
  repeat' split
  all_goals first|exact h1|exact C4|exact lX _|exact u7 _ _ _ (se aJ hl x h.1)
theorem EK(a b:Int)(aV:Fits a):wrap64 (a - wrap64 (wrap64 (a.tdiv b)*b))=a.tmod b:=by
 rw[n9,ns,show a - a.tdiv b*b=a.tmod b by have:=Int.tdiv_mul_add_tmod a b;omega];exact IntWalk.wrap64_in _ (rF a b aV)
structure nu(g l:List Int)(e:VE):Prop where
 fg:∀x∈g,Fits x
 fl:∀x∈l,Fits x
 fe:e.fit
def iD(e:VE):Prop:=∀(w:World) (G L:Kr) (ng nl cg cl:Nat) (g l:List Int) (c0 c1 c2 c3:Value),lr w G L ng nl g l e [c0,c1,c2,c3]→nu g l e→
 Calls prog 48 #[.agg #[c0,c1,c2,c3],.slice G ng cg,.slice L nl cl] w (fH w (ev g l e))
theorem EH(n:Int):iD (.num n):=by
 intro w G L ng nl cg cl g l c0 c1 c2 c3 h _;obtain⟨nm,A,c,T⟩:=h.rep;injection T with h0 T;injection T with ae T;injection T with aC T;injection T with aT T;subst h0 ae aC aT;clear h T;go_enter func48,ntmps48;go_wp2
 go_ret2
 exact uL
theorem xl(e:VE)(k:Int)(he:e=.loc k∨e=.ia k):iD e:=by
 intro w G L ng nl cg cl g l c0 c1 c2 c3 h _;have a:=(Below.refl w.heap.size w).alloc (JQ _) (.cells #[c0,c1,c2,c3] 57);have a4:=h.gs.cO a a.size;have y:=h.ls.cO a a.size;clear a;have b9:=h.ok;rcases he with rfl|rfl
 all_goals
  obtain⟨nm,A,c,T⟩:=h.rep;injection T with h0 T;injection T with ae T;injection T with aC T;injection T with aT T;subst h0 ae aC aT;clear h T;obtain⟨I,cd⟩:=b9;obtain⟨j,rfl⟩:=JV I
 ·obtain⟨b,o,x,rfl,O,hx,hc⟩:=y.int (show j<nl by omega);have bc:j<nl:=ab;have aP:=ad (show ev g l (.loc j)=(x,0) by simp[ev,List.getD_eq_getElem?_getD,hx]);clear hx a4 y;go_enter func48,ntmps48;go_wp2
  go_ret2
  exact fH.mk' aP.o ((Below.refl _ _).alloc (JQ _) _)
 ·obtain⟨b,o,x,rfl,O,hx,hc⟩:=a4.int (show j<ng by omega);have bc:j<ng:=ab;have aP:=ad (show ev g l (.ia j)=(x,0) by simp[ev,List.getD_eq_getElem?_getD,hx]);clear hx a4 y;go_enter func48,ntmps48;go_wp2
  go_ret2
  exact fH.mk' aP.o ((Below.refl _ _).alloc (JQ _) _)
namespace AO
theorem zV(h:p:=by
 have bX:=ad (show nu g l x from ⟨i.fg,i.fl,i.fe⟩);obtain⟨b9,bj⟩:=aM K aE;clear h hx K i;have b7:(op == 1)=false:=by simp;omega
 have g2:(op == 18)=false:=by simp;omega
 have ca:(op == 19)=false:=by simp;omega
 clear aE;have f:=(Below.refl w.heap.size w).alloc (JQ _) (.cells #[.int .i64 op,.int .i64 n,.string nm,.slice (some ⟨b,o,none⟩) 1 c] 57);have a0:(w.alloc (.cells #[.int .i64 op,.int .i64 n,.string nm,.slice (some ⟨b,o,none⟩) 1 c] 57)).cell? ⟨w.heap.size,0,none⟩=some (.int .i64 op):=by simp[go_sem]
 have a3:(w.alloc (.cells #[.int .i64 op,.int .i64 n,.string nm,.slice (some ⟨b,o,none⟩) 1 c] 57)).cell? ⟨w.heap.size,3,none⟩=some (.slice (some ⟨b,o,none⟩) 1 c):=by simp[go_sem]
 have bz:(w.alloc (.cells #[.int .i64 op,.int .i64 n,.string nm,.slice (some ⟨b,o,none⟩) 1 c] 57)).heap.size=w.heap.size+1:=by simp
 have HA:=bw a0 a3 bz f;clear a0 a3 bz f;go_enter func48,ntmps48;go_wp2_with(fail);refine(b9.o _ G L ng nl cg cl g l br Z ax E (aK.on HA.2.2.2) bX.o).mono ?_;rintro r aN ⟨rfl,bF⟩;obtain⟨a0,a3,bz,f⟩:=HA.o;have cz:=(bF.cell (p:=⟨w.heap.size,0,none⟩) (by simp only[];omega)).trans a0;have aD:=f.trans (bF.mono f.size);have m:=ad aD;clear HA a0 a3 bz f bF aK b9 aD;have a2:=ad (show ev g l (.un op x)=if (ev g l x).2≠0 then (0,(ev g l x).2) else if op=3 then (wrap64 (-(ev g l x).1),0) else (eV ((ev g l x).1 == 0),0) from rfl);clear bX;generalize ev g l x=r1 at *;obtain⟨v1,f1⟩:=r1;by_cases N:f1=0
 case neg=>
  have q1:(f1 != 0)=true:=by simpa using N
  have J:=ad (show ev g l (.un op x)=(0,f1) by rw[a2.o];simp[N]);clear N;go_wp2
  go_ret2
  exact fH.mk' J.o m.o
 have q1:(f1 != 0)=false:=by simpa using N
 rcases bj.o with aT|a9
 ·have J:=ad (show ev g l (.un op x)=(wrap64 (-v1),0) by rw[a2.o];simp[N,aT]);subst aT;clear N;go_wp2
  go_ret2
  exact fH.mk' J.o m.o
 ·have J:=ad (show ev g l (.un op x)=(eV (v1 == 0),0) by rw[a2.o];simp[N,a9]);subst a9;clear N;go_wp2_with(fail);refine(hA _ _).mono ?_;rintro e ac ⟨rfl,rfl⟩;go_wp2
  go_ret2
  exact fH.mk' J.o m.o
 ):p:=h
end AO
open AO in
theorem GJ(op:Int)(x:VE)(K:iD x):iD (.un op x):=by
 intro w G L ng nl cg cl g l c0 c1 c2 c3 h i;exact zU
namespace AP
theorem z7(h:p:=by
 have split:(op == 16)=true∧(v1 == 0)=false∧(op == 17)=false∨(op == 16)=false∧(op == 17)=true∧(v1 != 0)=false∨(op == 16)=false∧(op == 17)=false:=by
  exact Fp
 clear aV a8 a2;have bu:=ad split;clear split;have second:∀(P:Prop),P→P:=fun _ h=>h;clear second;rcases bu.o with⟨bq,a9,cH⟩|⟨bq,a9,cH⟩|⟨bq,a9⟩
 all_goals
  go_wp2_with(fail);refine(u.o _ G L ng nl cg cl g l cj cr bm aa (j.on m.o) bX.2).mono ?_;rintro r aO ⟨rfl,bx⟩;have hg:=(bx.cell (p:=⟨w.heap.size,0,none⟩) aw).trans cz;have bS:=ad (m.trans (bx.mono m.size));clear bx m cz cx d4 d5 d6 d7 j u aw;generalize ev g l y=gE at *;obtain⟨v2,f2⟩:=gE;by_cases ay:f2=0
  case neg=>
   have cv:(f2 != 0)=true:=by simpa using ay
   have bA:=ad (show ev g l (.bin op x y)=(0,f2) by rw[bl.o];simp[ay]);clear ay;go_wp2
   go_ret2
   exact fH.mk' bA.o bS.o
  have cv:(f2 != 0)=false:=by simpa using ay
  have bA:=ad (show ev g l (.bin op x y)=if op=16∨op=17 then (eV (v2 != 0),0) else arith op v1 v2 by rw[bl.o];simp[ay]);clear ay bl bu
  try clear cH
  first
  | (have F:=ad (show ev g l (.bin op x y)=(eV (v2 != 0),0) by rw[bA.o,if_pos (by first|exact .inl (by simpa using bq)|exact .inr (by simpa using a9))]);have hc:op=16∨op=17:=(by first|exact .inl (by simpa using bq)|exact .inr (by simpa using a9));clear bq a9 bA b7 g2 ca cJ e9;rcases hc with rfl|rfl;all_goals
     go_wp2_with(fail);refine(hA _ _).mono ?_;rintro e ac ⟨rfl,rfl⟩;go_wp2
     go_ret2
     exact fH.mk' F.o bS.o)
  | (have a1:op≠16∧op≠17:=⟨by simpa using bq,by simpa using a9⟩;have F:=ad (show ev g l (.bin op x y)=arith op v1 v2 by rw[bA.o,if_neg ab]);have hc:op=5∨op=6∨op=7∨op=8∨op=9∨op=10∨op=11∨op=12∨op=13∨op=14∨op=15:=(aH bj.o);clear bq a9 bA b7 g2 ca cJ e9 a1 bj;by_cases h0:v2=0
     ·subst h0;clear cc;rcases hc with rfl|rfl|rfl|rfl|rfl|rfl|rfl|rfl|rfl|rfl|rfl
      all_goals
       go_wp2_with(fail)
       try (refine(hA _ _).mono ?_;rintro e ac ⟨rfl,rfl⟩;go_wp2)
       go_ret2
       first|exact fH.mk' F.o bS.o|exact fH.mk' (F.trans (by first|(simp[arith];done)|(simp[arith];decide +kernel))) bS.o
     ·have cF:(v2 == 0)=false:=by simpa using h0
      have ba:=ad h0;clear h0;rcases hc with rfl|rfl|rfl|rfl|rfl|rfl|rfl|rfl|rfl|rfl|rfl
      case inr.inl=>
       go_wp2_with(fail);refine(mA _ _ ba.o _).mono ?_;rintro e ac ⟨rfl,rfl⟩;go_wp2
       go_ret2
       exact fH.mk' (F.trans (by simp[arith,ba.o])) bS.o
      case inr.inr.inl=>
       go_wp2_with(fail);refine(mA _ _ ba.o _).mono ?_;rintro e ac ⟨rfl,rfl⟩;go_wp2
       go_ret2
       exact fH.mk' (F.trans (by simp[arith,ba.o,EK _ _ cc.o])) bS.o
      all_goals
       clear cF;go_wp2_with(fail)
       try (refine(hA _ _).mono ?_;rintro e ac ⟨rfl,rfl⟩;go_wp2)
       go_ret2
       exact fH.mk' F.o bS.o)
 ):p:=h
theorem zH(h:p:=by
 by_cases N:f1=0
 case neg=>
  have q1:(f1 != 0)=true:=by simpa using N
  have J:=ad (show ev g l (.bin op x y)=(0,f1) by rw[a2.o];simp[N]);clear N;go_wp2
  go_ret2
  exact fH.mk' J.o m.o
 have q1:(f1 != 0)=false:=by simpa using N
 have bK:=ad N;clear N;by_cases aV:op=16∧v1=0
 ·obtain⟨rfl,rfl⟩:=aV;have J:=ad (show ev g l (.bin 16 x y)=(0,0) by rw[a2.o];simp[bK.o]);go_wp2
  go_ret2
  exact fH.mk' J.o m.o
 by_cases a8:op=17∧v1≠0
 ·obtain⟨rfl,bD⟩:=a8;have cB:(v1 != 0)=true:=by simpa using bD
  have J:=ad (show ev g l (.bin 17 x y)=(1,0) by rw[a2.o];simp[bK.o,bD]);clear bD;go_wp2
  go_ret2
  exact fH.mk' J.o m.o
 exact z6
 ):p:=h
theorem zC(h:p:=by
 have bX:=ai (show nu g l x from ⟨i.fg,i.fl,i.fe.1⟩) (show nu g l y from ⟨i.fg,i.fl,i.fe.2⟩);have cc:=ad (se i.fg i.fl x i.fe.1);obtain⟨b9,u,bj⟩:=ez k s aE;clear h hx a4 k s i;have b7:(op == 1)=false:=by simp;omega
 have g2:(op == 18)=false:=by simp;omega
 have ca:(op == 19)=false:=by simp;omega
 have cJ:(op == 3)=false:=by simp;omega
 have e9:(op == 4)=false:=by simp;omega
 clear aE;have f:=(Below.refl w.heap.size w).alloc (JQ _) (.cells #[.int .i64 op,.int .i64 n,.string nm,.slice (some ⟨b,o,none⟩) 2 c] 57);have a0:(w.alloc (.cells #[.int .i64 op,.int .i64 n,.string nm,.slice (some ⟨b,o,none⟩) 2 c] 57)).cell? ⟨w.heap.size,0,none⟩=some (.int .i64 op):=by simp[go_sem]
 have a3:(w.alloc (.cells #[.int .i64 op,.int .i64 n,.string nm,.slice (some ⟨b,o,none⟩) 2 c] 57)).cell? ⟨w.heap.size,3,none⟩=some (.slice (some ⟨b,o,none⟩) 2 c):=by simp[go_sem]
 have bz:(w.alloc (.cells #[.int .i64 op,.int .i64 n,.string nm,.slice (some ⟨b,o,none⟩) 2 c] 57)).heap.size=w.heap.size+1:=by simp
 have HA:=bw a0 a3 bz f;clear a0 a3 bz f;go_enter func48,ntmps48;go_wp2_with(fail);refine(b9.o _ G L ng nl cg cl g l br Z ax E (aK.on HA.2.2.2) bX.1).mono ?_;rintro r aN ⟨rfl,bF⟩;obtain⟨a0,a3,bz,f⟩:=HA.o;have cz:=(bF.cell (p:=⟨w.heap.size,0,none⟩) (by simp only[];omega)).trans a0;have cx:=(bF.cell (p:=⟨w.heap.size,3,none⟩) (by simp only[];omega)).trans a3;have aD:=f.trans (bF.mono f.size);have d4:=(aD.cell (p:=⟨b,o+4,none⟩) O).trans bs;have d5:=(aD.cell (p:=⟨b,o+5,none⟩) O).trans cG;have d6:=(aD.cell (p:=⟨b,o+6,none⟩) O).trans bG;have d7:=(aD.cell (p:=⟨b,o+7,none⟩) O).trans e7;have aw:w.heap.size<aN.heap.size:=by have:=bF.size;omega
 have m:=ad aD;clear HA a0 a3 bz f bF aK b9 aD e0 e1 e2 e3 bs cG bG e7;exact zG
 ):p:=h
end AP
open AP in
theorem EG(op:Int)(x y:VE)(k:iD x)(s:iD y):iD (.bin op x y):=by
 intro w G L ng nl cg cl g l c0 c1 c2 c3 h i;exact zB
theorem m7:∀e:VE,iD e
 | .num n=>EH n
 | .gy _=>fun _ _ _ _ _ _ _ _ _ _ _ _ _ h _=>h.ok.elim
 | .loc k=>xl _ k (.inl rfl)
 | .ia k=>xl _ k (.inr rfl)
 | .un op x=>GJ op x (m7 x)
 | .bin op x y=>EG op x y (m7 x) (m7 y)
end
def idx(ms:Int)(r:Int×Int):Int×Int:=if r.2≠0 then (0,r.2) else if r.1<0∨ms≤r.1 then (0,2) else (r.1,0)
structure yD(w:World)(MA:Kr)(mn:Nat)(X:List bA)(G L:Kr)(ng nl:Nat)(g l:List Int)(e:VE)(i:Nat)(m:bA)(b o:Nat)(c0 c1 c2 c3:Value):Prop where
 ev:lr w G L ng nl g l e [c0,c1,c2,c3]
 ms:cC (EF hg) 3 w w.heap.size MA mn X
 i1:i<mn
 hm:X[i]?=some m
 bl:b<w.heap.size
 e0:w.cell? ⟨b,o,none⟩=some c0
 e1:w.cell? ⟨b,o+1,none⟩=some c1
 e2:w.cell? ⟨b,o+2,none⟩=some c2
 e3:w.cell? ⟨b,o+3,none⟩=some c3
theorem cC.Ij{l:List bA}(h:cC (EF hg) 3 w B A n l){k:Nat}(aj:k<n):
  ∃b o m,A=some ⟨b,o,none⟩∧b<B∧l[k]?=some m∧w.cell? ⟨b,o+k*3,none⟩=some (.string m.name)∧w.cell? ⟨b,o+k*3+1,none⟩=some (.bool m.re)∧w.cell? ⟨b,o+k*3+2,none⟩=some (.int .i64 m.size):=by
 obtain⟨b,o,x,bk,O,hx,_,hc⟩:=h.Hp aj;exact⟨b,o,x,bk,O,hx,hc 0 _ rfl,hc 1 _ rfl,hc 2 _ rfl⟩
namespace AQ
theorem zu(h:p:=by
 have q1:decide ((i:Int)<0)=false:=by simp
 have cB:decide (i≥mn)=false:=by simp;omega
 have a:decide (mn≤i)=false:=by simp;omega
 have cv:(0:Int)≤(i:Int):=ab;have cF:(i:Int)<(mn:Int):=ab;have b1:=ad (a2.on (Fr.ext aF));clear hm S a2 F;go_enter func64,ntmps64;go_wp2_with(fail);have cz:=(aF.cell (j:=o) aX (fun h=>h)).trans e0;have b5:=(aF.cell (j:=o+1) aX (fun h=>h)).trans e1;generalize w.alloc (.cells #[.bool false,.int .i64 i,.slice (some ⟨b,o,none⟩) 1 pc] 59)=W at *;refine(yB e W G L ng nl cg cl g l _ _ _ _ b1.o).mono ?_;exact Fc
 ):p:=h
end AQ
open AQ in
theorem xy(w:World)(MA:Kr)(mn mc:Nat)(X:List bA)(G L:Kr)(ng nl cg cl:Nat)(g l:List Int)(e:VE)(i:Nat)(m:bA)(b o pc:Nat)(c0 c1 c2 c3:Value)
  (h:yD w MA mn X G L ng nl g l e i m b o c0 c1 c2 c3) :
  Calls prog 64 #[.agg #[.bool false,.int .i64 i,.slice (some ⟨b,o,none⟩) 1 pc],.slice MA mn mc,.slice G ng cg,.slice L nl cl] w (fH w (idx m.size (ev g l e))):=by
 exact zt
namespace AR
theorem zu(h:p:=by
 have cv:(0:Int)≤(i:Int):=ab;have cF:(i:Int)<(mn:Int):=ab;have b1:=ad (a2.on (Fr.ext aF));have c:=ad a;clear hm S a2 F a;go_enter func67,ntmps67;go_wp2_with(fail);have cz:=(aF.cell (j:=o) aX (fun h=>h)).trans e0;have b5:=(aF.cell (j:=o+1) aX (fun h=>h)).trans e1;generalize w.alloc (.cells #[.bool false,.int .i64 i,.slice (some ⟨b,o,none⟩) 1 pc] 59)=W at *;refine(m7 e W G L ng nl cg cl g l _ _ _ _ b1.o c.o).mono ?_;exact Fc
 ):p:=h
end AR
open AR in
theorem sG(w:World)(MA:Kr)(mn mc:Nat)(X:List bA)(G L:Kr)(ng nl cg cl:Nat)(g l:List Int)(e:VE)(i:Nat)(m:bA)(b o pc:Nat)(c0 c1 c2 c3:Value)
  (h:yD w MA mn X G L ng nl g l e i m b o c0 c1 c2 c3) (a:nu g l e) :
  Calls prog 67 #[.agg #[.bool false,.int .i64 i,.slice (some ⟨b,o,none⟩) 1 pc],.slice MA mn mc,.slice G ng cg,.slice L nl cl] w (fH w (idx m.size (ev g l e))):=by
 exact zt
theorem uF(w:World)(i:Int)(A:Kr)(pc:Nat)(b:Bool)(m g l:Value):Calls prog 64 #[.agg #[.bool b,.int .i64 i,.slice A 0 pc],m,g,l] w (fH w (0,0)):=by
 go_enter func64,ntmps64;go_wp2
 go_ret2
 exact uL
theorem qI(w:World)(i:Int)(A:Kr)(pc:Nat)(b:Bool)(m g l:Value):Calls prog 67 #[.agg #[.bool b,.int .i64 i,.slice A 0 pc],m,g,l] w (fH w (0,0)):=by
 go_enter func67,ntmps67;go_wp2
 go_ret2
 exact uL
structure fI(s:Nat)(w ac:World):Prop where
 os:ac.os=w.os
 tape:ac.tape=w.tape
 output:ac.output=w.output
 size:w.heap.size≤ac.heap.size
 block:∀k,k<w.heap.size→k≠s→ac.heap[k]?=w.heap[k]?
theorem fI.refl(s:Nat)(w:World):fI s w w:=⟨rfl,rfl,rfl,JQ _,fun _ _ _=>rfl⟩
theorem fI.trans{s:Nat}{a b c:World}(h:fI s a b)(k:fI s b c):fI s a c:=
 ⟨k.os.trans h.os,k.tape.trans h.tape,k.output.trans h.output,J7 h.size k.size,fun i al hn=>(k.block i (JR al h.size) hn).trans (h.block i al hn)⟩
theorem fI.of(h:Below a.heap.size a b):fI s a b:=⟨h.os,h.tape,h.output,h.size,fun k aj _=>h.block k aj⟩
theorem fI.below(h:fI s a b)(hs:s≤a.heap.size):Below s a b:=⟨h.os,h.tape,h.output,h.size,fun k aj=>h.block k ab ab⟩
theorem fI.setCell{s:Nat}{a b:World}(h:fI s a b)(j:Nat)(v:Value):fI s a (b.setCell ⟨s,j,none⟩ v):=by
 refine⟨h.os,h.tape,h.output,by simpa using h.size,fun k aj hn=>?_⟩;rw[Below.heap_setCell _ _ _ _ hn];exact h.block k aj hn
theorem fI.drew{s:Nat}{a b:World}(h:fI s a b):fI s a b.drew:=⟨h.os,h.tape,h.output,h.size,h.block⟩
theorem fI.cell{s:Nat}{a b:World}(h:fI s a b){k j:Nat}(aj:k<a.heap.size)(hn:k≠s):b.cell? ⟨k,j,none⟩=a.cell? ⟨k,j,none⟩:=World.cell?_of_block (h.block k aj hn)
structure b0(w:World)(s:Nat)(A:Kr)(n c:Nat)(l:List Int):Prop where
 lt:s<w.heap.size
 c0:w.cell? ⟨s,0,none⟩=some (.slice A n c)
 c1:∃i:Nat,i≤n∧w.cell? ⟨s,1,none⟩=some (.int .i64 i)
 fz:w.frozen? ⟨s,1,none⟩=false
 ls:cC (EF b2) 1 w s A n l
 hn:n≤1000
theorem b0.on{c:Nat}(h:b0 w s A n c l)(O:Below w.heap.size w ac):b0 ac s A n c l:=by
 have aw:=h.lt;refine⟨JR h.lt O.size,?_,?_,?_,h.ls.fS (O.mono ab),h.hn⟩
 ·exact(O.cell (p:=⟨s,0,none⟩) aw).trans h.c0
 ·obtain⟨i,al,hc⟩:=h.c1;exact⟨i,al,(O.cell (p:=⟨s,1,none⟩) aw).trans hc⟩
 ·exact(O.frozen (p:=⟨s,1,none⟩) aw).trans h.fz
def wC(w:World)(s:Nat)(A:Kr)(n c:Nat)(l:List Int)(m:Int)(e:Ending)(ac:World):Prop:=
 ∃k,e=.returned (.int .i64 k)∧0≤k∧k<m∧b0 ac s A n c l∧fI s w ac
theorem aW(w:World)(s:Nat)(A:Kr)(n c:Nat)(l:List Int)(m:Int)(h:b0 w s A n c l)(hm:0<m)(bN:m≤4611686018427387904) :
  Calls prog 96 #[.pointer (some ⟨s,0,none⟩),.int .i64 m] w (wC w s A n c l m):=by
 have H:=ad h;obtain⟨aw,u,⟨i,al,bB⟩,e,y,hn⟩:=h;by_cases aK:i<n
 case neg=>
  have q:decide ((i:Int)≥n)=true:=by simp;omega
  clear y;go_enter func96,ntmps96;go_wp2;go_quiet (fail)
  go_wp2;go_ret;exact⟨0,rfl,ab,hm,H.on (dt (Below.refl _ _) _),.of (dt (Below.refl _ _) _)⟩
 have q:decide ((i:Int)≥n)=false:=by simp;omega
 obtain⟨b,o,x,rfl,O,hx,hc⟩:=y.int aK;clear hx y;go_enter func96,ntmps96;go_wp2;go_quiet (fail)
 go_wp2;obtain⟨h,aF,f,g,aC⟩:b0 ((w.drewN nq).setCell ⟨s,1,none⟩ (.int .i64 ((i:Int)+1))) s (some ⟨b,o,none⟩) n c l∧fI s w ((w.drewN nq).setCell ⟨s,1,none⟩ (.int .i64 ((i:Int)+1)))∧
   ((w.drewN nq).setCell ⟨s,1,none⟩ (.int .i64 ((i:Int)+1))).cell? ⟨s,0,none⟩=some (.slice (some ⟨b,o,none⟩) n c)∧((w.drewN nq).setCell ⟨s,1,none⟩ (.int .i64 ((i:Int)+1))).cell? ⟨s,1,none⟩=some (.int .i64 ((i:Int)+1))∧
   ((w.drewN nq).setCell ⟨s,1,none⟩ (.int .i64 ((i:Int)+1))).cell? ⟨b,o+i,none⟩=some (.int .i64 x):=by
  have d:=H.on (dt (Below.refl _ _) nq);have aF:fI s w (w.drewN nq):=.of (dt (Below.refl _ _) nq);generalize w.drewN nq=v at *;have e0:(v.setCell ⟨s,1,none⟩ (.int .i64 ((i:Int)+1))).cell? ⟨s,0,none⟩=some (.slice (some ⟨b,o,none⟩) n c):=(World.cell?_setCell_other _ _ _ _ (by simp)).trans d.c0;have e1:(v.setCell ⟨s,1,none⟩ (.int .i64 ((i:Int)+1))).cell? ⟨s,1,none⟩=some (.int .i64 ((i:Int)+1)):=by
   obtain⟨k,_,aj⟩:=d.c1;simp[go_sem,aj]
  have bO:Below s v (v.setCell ⟨s,1,none⟩ (.int .i64 ((i:Int)+1))):=(Below.refl s v).setCell (p:=⟨s,1,none⟩) (JQ s) _;refine⟨⟨by simpa using d.lt,e0,⟨i+1,ab,by rw[e1];simp⟩,(World.frozen?_setCell _ _ _ _).trans d.fz,d.ls.fS bO,d.hn⟩,aF.setCell _ _,e0,e1,?_⟩;rw[bO.cell (by exact O),←hc];exact aF.cell ab ab
 have aX:IntKind.i64.wrap ((i:Int)+1 - 1)=i:=by rw[show (i:Int)+1 - 1=i by omega];exact IntWalk.i64_in _ ab
 have cn:=ai h aF;clear h aF H u bB hc e;generalize (w.drewN nq).setCell ⟨s,1,none⟩ (.int .i64 ((i:Int)+1))=v at *;go_quiet (first|(go_at_call 24;refine Calls.quiet_of_same ((lY x m hm bN _).mono fun _ _ h=>⟨h.1,h.2.symm⟩)))
 go_wp2;go_ret;have aU:=sW (x:=x) (n:=m) hm;exact⟨_,rfl,aU.1,aU.2,cn.1.on (dt (Below.refl _ _) _),cn.2.trans (.of (dt (Below.refl _ _) _))⟩
end Go.Proofs.YtbkhhfajcgkpgaaGreat

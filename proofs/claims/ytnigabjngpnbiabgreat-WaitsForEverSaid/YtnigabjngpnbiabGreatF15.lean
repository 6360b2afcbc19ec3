/- Part 15 of the proof. No condition of its own. -/
import Derived.Test.YtnigabjngpnbiabGreatF07
namespace Go.Proofs.YtnigabjngpnbiabGreat
open Go.RowKit Go.Proofs.Tryz
set_option maxRecDepth 1000000
set_option maxHeartbeats 25600000
set_option linter.unusedVariables false
variable{p:Prop}
section
attribute [local go_sem ↓] gI gJ
def Fits(n:Int):Prop:=-9223372036854775808<=n/\n<=9223372036854775807
theorem oW(n:Int):Fits (wrap64 n):=by unfold Fits wrap64;omega
theorem mJ(b:Bool):Fits (fB b):=by cases b<;>(unfold Fits fB;decide)
def VE.fit:VE->Prop
 | .num n=>Fits n
 | .gU _=>True
 | .loc _=>True
 | .ij _=>True
 | .un _ x=>x.fit
 | .bin _ x y=>x.fit/\y.fit
theorem sT(a b:Int)(bg:Fits a):Fits (a.tmod b):=by
 have c:=Int.natAbs_tmod a b;have hle:a.natAbs % b.natAbs<=a.natAbs:=Nat.mod_le _ _;rw[<-c] at hle;unfold Fits at *;rcases Int.lt_trichotomy a 0 with h|h|h
 .have az:=Int.tmod_nonneg b (show 0<=-a by omega);rw[Int.neg_tmod] at az;generalize a.tmod b=r at *;omega
 .subst h;simp
 .have az:=Int.tmod_nonneg b (show 0<=a by omega);generalize a.tmod b=r at *;omega
theorem iJ:Fits 0:=by unfold Fits;decide
theorem Fx:Fits 1:=by unfold Fits;decide
theorem wU(op a b:Int)(bg:Fits a):Fits (arith op a b).1:=by
 unfold arith
 repeat' split
 all_goals first|exact oW _|exact mJ _|exact sT _ _ bg|exact iJ
theorem so{g:List Int}(aR:∀x∈g,Fits x)(k:Nat):Fits (g.getD k 0):=by
 rw[List.getD_eq_getElem?_getD]
 cases h:g[k]? with
 | none=>exact iJ
 | some v=>exact aR v (M4 h)
theorem tA{g l:List Int}(aR:∀x∈g,Fits x)(hl:∀x∈l,Fits x):∀e:VE,e.fit->Fits (ev g l e).1
 | .num _,h=>h
 | .gU _,_=>iJ
 | .loc _,_=>so hl _
 | .ij _,_=>so aR _
 | .un op x,_=>by
  rw[ev]
  repeat' split
  all_goals first|exact iJ|exact oW _|exact mJ _
 | .bin op x y,h=>by
  rw[ev]
  repeat' split
  all_goals first|exact iJ|exact Fx|exact mJ _|exact wU _ _ _ (tA aR hl x h.1)
theorem Ht(a b:Int)(bg:Fits a):wrap64 (a - wrap64 (wrap64 (a.tdiv b)*b))=a.tmod b:=by
 rw[pg,ou,show a - a.tdiv b*b=a.tmod b by have:=Int.tdiv_mul_add_tmod a b;omega];exact IntWalk.wrap64_in _ (sT a b bg)
structure ow(g l:List Int)(e:VE):Prop where
 fg:∀x∈g,Fits x
 fl:∀x∈l,Fits x
 fe:e.fit
def jk(e:VE):Prop:=∀(w:World) (G L:NH) (ng nl cg cl:Nat) (g l:List Int) (c0 c1 c2 c3:Value),lR w G L ng nl g l e [c0,c1,c2,c3]->ow g l e->
 Calls prog 87 #[.agg #[c0,c1,c2,c3],.slice G ng cg,.slice L nl cl] w (gx w (ev g l e))
theorem Hq(n:Int):jk (.num n):=by
 intro w G L ng nl cg cl g l c0 c1 c2 c3 h _;obtain⟨nm,A,c,T⟩:=h.rep;injection T with h0 T;injection T with ac T;injection T with az T;injection T with aV T;subst h0 ac az aV;clear h T;go_enter func87,ntmps87;go_wp2
 go_ret2
 exact wA
theorem yZ(e:VE)(k:Int)(he:e=.loc k\/e=.ij k):jk e:=by
 intro w G L ng nl cg cl g l c0 c1 c2 c3 h _;have a:=(Below.refl w w).alloc (MU _) (.cells #[c0,c1,c2,c3] 37);have bB:=h.gs.cD a a.size;have y:=h.ls.cD a a.size;clear a;have ca:=h.ok;rcases he with rfl|rfl
 all_goals
  obtain⟨nm,A,c,T⟩:=h.rep;injection T with h0 T;injection T with ac T;injection T with az T;injection T with aV T;subst h0 ac az aV;clear h T;obtain⟨bE,ce⟩:=ca;obtain⟨j,rfl⟩:=M6 bE
 .obtain⟨b,o,x,rfl,O,hx,hc⟩:=y.int (show j<nl by omega);have bi:j<nl:=ad;have aP:=ae (show ev g l (.loc j)=(x,0) by simp[ev,List.getD_eq_getElem?_getD,hx]);clear hx bB y;go_enter func87,ntmps87;go_wp2
  go_ret2
  exact gx.mk' aP.o ((Below.refl _ _).alloc (MU _) _)
 .obtain⟨b,o,x,rfl,O,hx,hc⟩:=bB.int (show j<ng by omega);have bi:j<ng:=ad;have aP:=ae (show ev g l (.ij j)=(x,0) by simp[ev,List.getD_eq_getElem?_getD,hx]);clear hx bB y;go_enter func87,ntmps87;go_wp2
  go_ret2
  exact gx.mk' aP.o ((Below.refl _ _).alloc (MU _) _)
namespace Dy
theorem te(h:p:=by
 have cp:=h.ok.1;have aB:lR w G L ng nl g l x [b0,Z,a9,H]:=⟨h.gs,h.ls,h.ok.2,hx⟩
 have bZ:=ae (show ow g l x from ⟨i.fg,i.fl,i.fe⟩);obtain⟨cC,a2⟩:=aJ u cp;clear h hx u i;have cd:(op == 1)=false:=by simp;omega
 have g2:(op == 18)=false:=by simp;omega
 have cA:(op == 19)=false:=by simp;omega
 clear cp;have f:=(Below.refl w w).alloc (MU _) (.cells #[op,n,nm,.slice (some ⟨b,o,none⟩) 1 c] 37);have a0:(w.alloc (.cells #[op,n,nm,.slice (some ⟨b,o,none⟩) 1 c] 37)).cell? ⟨w,0,none⟩=some (.int .i64 op):=by simp[go_sem]
 have a3:(w.alloc (.cells #[op,n,nm,.slice (some ⟨b,o,none⟩) 1 c] 37)).cell? ⟨w,3,none⟩=some (.slice (some ⟨b,o,none⟩) 1 c):=by simp[go_sem]
 have bO:(w.alloc (.cells #[op,n,nm,.slice (some ⟨b,o,none⟩) 1 c] 37)).heap.size=w.heap.size+1:=by simp
 have HA:=br a0 a3 bO f;clear a0 a3 bO f;go_enter func87,ntmps87;go_wp2_with(fail);refine(cC.o _ G L ng nl cg cl g l b0 Z a9 H (aB.on HA.2.2.2) bZ.o).mono ?_;rintro r aO ⟨rfl,b2⟩;obtain⟨a0,a3,bO,f⟩:=HA.o;have cZ:=(b2.cell (p:=⟨w,0,none⟩) (by simp only[];omega)).trans a0;have J:=f.trans (b2.mono f.size);have z:=ae J;clear HA a0 a3 bO f b2 aB cC J;have bk:=ae (show ev g l (.un op x)=if (ev g l x).2≠0 then (0,(ev g l x).2) else if op=3 then (wrap64 (-(ev g l x).1),0) else (fB ((ev g l x).1 == 0),0) from rfl);clear bZ;generalize ev g l x=r1 at *;obtain⟨v1,f1⟩:=r1;by_cases bf:f1=0
 case neg=>
  have q1:(f1 != 0)=true:=by simpa using bf
  have a8:=ae (show ev g l (.un op x)=(0,f1) by rw[bk.o];simp[bf]);clear bf;go_wp2
  go_ret2
  exact gx.mk' a8.o z.o
 have q1:(f1 != 0)=false:=by simpa using bf
 rcases a2.o with aV|aU
 .have a8:=ae (show ev g l (.un op x)=(wrap64 (-v1),0) by rw[bk.o];simp[bf,aV]);subst aV;clear bf;go_wp2
  go_ret2
  exact gx.mk' a8.o z.o
 .have a8:=ae (show ev g l (.un op x)=(fB (v1 == 0),0) by rw[bk.o];simp[bf,aU]);subst aU;clear bf;go_wp2_with(fail);refine(iv _ _).mono ?_;rintro e ab ⟨rfl,rfl⟩;go_wp2
  go_ret2
  exact gx.mk' a8.o z.o
 ):p:=h
end Dy
open Dy in
theorem JB(op:Int)(x:VE)(u:jk x):jk (.un op x):=by
 intro w G L ng nl cg cl g l c0 c1 c2 c3 h i;obtain⟨n,nm,b,o,c,b0,Z,a9,H,T,O,hx,e0,e1,e2,e3⟩:=h.rep;exact td
namespace Dz
theorem Cj(h:p:=by
 have split:(op == 16)=true/\(v1 == 0)=false/\(op == 17)=false\/(op == 16)=false/\(op == 17)=true/\(v1 != 0)=false\/(op == 16)=false/\(op == 17)=false:=by
  exact Ig
 clear bg bD bk;have bH:=ae split;clear split;have second:∀(P:Prop),P->P:=λ_ h=>h;clear second;rcases bH.o with⟨cj,cB,dx⟩|⟨cj,cB,dx⟩|⟨cj,cB⟩
 all_goals
  go_wp2_with(fail);refine(E.o _ G L ng nl cg cl g l ci cr cf bv (j.on z.o) bZ.2).mono ?_;rintro r aW ⟨rfl,bn⟩;have hr:=(bn.cell (p:=⟨w,0,none⟩) ap).trans cZ;have I:=ae (z.trans (bn.mono z.size));clear bn z cZ cS d4 d5 d6 d7 j E ap;generalize ev g l y=gw at *;obtain⟨v2,f2⟩:=gw;by_cases aA:f2=0
  case neg=>
   have de:(f2 != 0)=true:=by simpa using aA
   have bQ:=ae (show ev g l (.bin op x y)=(0,f2) by rw[a4.o];simp[aA]);clear aA;go_wp2
   go_ret2
   exact gx.mk' bQ.o I.o
  have de:(f2 != 0)=false:=by simpa using aA
  have bQ:=ae (show ev g l (.bin op x y)=if op=16\/op=17 then (fB (v2 != 0),0) else arith op v1 v2 by rw[a4.o];simp[aA]);clear aA a4 bH
  try clear dx
  first
  | (have F:=ae (show ev g l (.bin op x y)=(fB (v2 != 0),0) by rw[bQ.o,if_pos (by first|exact .inl (by simpa using cj)|exact .inr (by simpa using cB))]);have hc:op=16\/op=17:=(by first|exact .inl (by simpa using cj)|exact .inr (by simpa using cB));clear cj cB bQ cd g2 cA c6 ff;rcases hc with rfl|rfl;all_goals
     go_wp2_with(fail);refine(iv _ _).mono ?_;rintro e ab ⟨rfl,rfl⟩;go_wp2
     go_ret2
     exact gx.mk' F.o I.o)
  | (have bl:op≠16/\op≠17:=⟨by simpa using cj,by simpa using cB⟩;have F:=ae (show ev g l (.bin op x y)=arith op v1 v2 by rw[bQ.o,if_neg ad]);have hc:op=5\/op=6\/op=7\/op=8\/op=9\/op=10\/op=11\/op=12\/op=13\/op=14\/op=15:=(ax a2.o);clear cj cB bQ cd g2 cA c6 ff bl a2;by_cases h0:v2=0
     .subst h0;clear cc;rcases hc with rfl|rfl|rfl|rfl|rfl|rfl|rfl|rfl|rfl|rfl|rfl
      all_goals
       go_wp2_with(fail)
       try (refine(iv _ _).mono ?_;rintro e ab ⟨rfl,rfl⟩;go_wp2)
       go_ret2
       first|exact gx.mk' F.o I.o|exact gx.mk' (F.trans (by first|(simp[arith];done)|(simp[arith];decide +kernel))) I.o
     .have dc:(v2 == 0)=false:=by simpa using h0
      have bj:=ae h0;clear h0;rcases hc with rfl|rfl|rfl|rfl|rfl|rfl|rfl|rfl|rfl|rfl|rfl
      case inr.inl=>
       go_wp2_with(fail);refine(nh _ _ bj.o _).mono ?_;rintro e ab ⟨rfl,rfl⟩;go_wp2
       go_ret2
       exact gx.mk' (F.trans (by simp[arith,bj.o])) I.o
      case inr.inr.inl=>
       go_wp2_with(fail);refine(nh _ _ bj.o _).mono ?_;rintro e ab ⟨rfl,rfl⟩;go_wp2
       go_ret2
       exact gx.mk' (F.trans (by simp[arith,bj.o,Ht _ _ cc.o])) I.o
      all_goals
       clear dc;go_wp2_with(fail)
       try (refine(iv _ _).mono ?_;rintro e ab ⟨rfl,rfl⟩;go_wp2)
       go_ret2
       exact gx.mk' F.o I.o)
 ):p:=h
theorem BO(h:p:=by
 by_cases bf:f1=0
 case neg=>
  have q1:(f1 != 0)=true:=by simpa using bf
  have a8:=ae (show ev g l (.bin op x y)=(0,f1) by rw[bk.o];simp[bf]);clear bf;go_wp2
  go_ret2
  exact gx.mk' a8.o z.o
 have q1:(f1 != 0)=false:=by simpa using bf
 have bC:=ae bf;clear bf;by_cases bg:op=16/\v1=0
 .obtain⟨rfl,rfl⟩:=bg;have a8:=ae (show ev g l (.bin 16 x y)=(0,0) by rw[bk.o];simp[bC.o]);go_wp2
  go_ret2
  exact gx.mk' a8.o z.o
 by_cases bD:op=17/\v1≠0
 .obtain⟨rfl,bK⟩:=bD;have cL:(v1 != 0)=true:=by simpa using bK
  have a8:=ae (show ev g l (.bin 17 x y)=(1,0) by rw[bk.o];simp[bC.o,bK]);clear bK;go_wp2
  go_ret2
  exact gx.mk' a8.o z.o
 exact Ci
 ):p:=h
theorem BG(h:p:=by
 have bZ:=ah (show ow g l x from ⟨i.fg,i.fl,i.fe.1⟩) (show ow g l y from ⟨i.fg,i.fl,i.fe.2⟩);have cc:=ae (tA i.fg i.fl x i.fe.1);obtain⟨cC,E,a2⟩:=eU m k cp;clear h hx bb m k i;have cd:(op == 1)=false:=by simp;omega
 have g2:(op == 18)=false:=by simp;omega
 have cA:(op == 19)=false:=by simp;omega
 have c6:(op == 3)=false:=by simp;omega
 have ff:(op == 4)=false:=by simp;omega
 clear cp;have f:=(Below.refl w w).alloc (MU _) (.cells #[op,n,nm,.slice (some ⟨b,o,none⟩) 2 c] 37);have a0:(w.alloc (.cells #[op,n,nm,.slice (some ⟨b,o,none⟩) 2 c] 37)).cell? ⟨w,0,none⟩=some (.int .i64 op):=by simp[go_sem]
 have a3:(w.alloc (.cells #[op,n,nm,.slice (some ⟨b,o,none⟩) 2 c] 37)).cell? ⟨w,3,none⟩=some (.slice (some ⟨b,o,none⟩) 2 c):=by simp[go_sem]
 have bO:(w.alloc (.cells #[op,n,nm,.slice (some ⟨b,o,none⟩) 2 c] 37)).heap.size=w.heap.size+1:=by simp
 have HA:=br a0 a3 bO f;clear a0 a3 bO f;go_enter func87,ntmps87;go_wp2_with(fail);refine(cC.o _ G L ng nl cg cl g l b0 Z a9 H (aB.on HA.2.2.2) bZ.1).mono ?_;rintro r aO ⟨rfl,b2⟩;obtain⟨a0,a3,bO,f⟩:=HA.o;have cZ:=(b2.cell (p:=⟨w,0,none⟩) (by simp only[];omega)).trans a0;have cS:=(b2.cell (p:=⟨w,3,none⟩) (by simp only[];omega)).trans a3;have J:=f.trans (b2.mono f.size);have d4:=(J.cell (p:=⟨b,o+4,none⟩) O).trans b3;have d5:=(J.cell (p:=⟨b,o+5,none⟩) O).trans co;have d6:=(J.cell (p:=⟨b,o+6,none⟩) O).trans bx;have d7:=(J.cell (p:=⟨b,o+7,none⟩) O).trans e7;have ap:w<aO.heap.size:=by have:=b2.size;omega
 have z:=ae J;clear HA a0 a3 bO f b2 aB cC J e0 e1 e2 e3 b3 co bx e7;exact BN
 ):p:=h
end Dz
open Dz in
theorem Hp(op:Int)(x y:VE)(m:jk x)(k:jk y):jk (.bin op x y):=by
 intro w G L ng nl cg cl g l c0 c1 c2 c3 h i;exact BF
theorem ob:∀e:VE,jk e
 | .num n=>Hq n
 | .gU _=>λ_ _ _ _ _ _ _ _ _ _ _ _ _ h _=>h.ok.elim
 | .loc k=>yZ _ k (.inl rfl)
 | .ij k=>yZ _ k (.inr rfl)
 | .un op x=>JB op x (ob x)
 | .bin op x y=>Hp op x y (ob x) (ob y)
end
end Go.Proofs.YtnigabjngpnbiabGreat

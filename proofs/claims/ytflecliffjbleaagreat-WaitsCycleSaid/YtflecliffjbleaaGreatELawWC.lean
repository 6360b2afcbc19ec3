/- The law WaitsCycle, walked. No condition but the gy of slices. -/
import Derived.Test.YtflecliffjbleaaGreatELawWx
namespace Go.Proofs.YtflecliffjbleaaGreat
open Go.RowKit
set_option maxRecDepth 1000000
set_option linter.unusedVariables false
set_option maxRecDepth 1000000 in
set_option maxHeartbeats 6400000 in
theorem waitsCycle_any(A B C:Option Addr)(n c m d k c3:Nat)(l pkq7 r:List Int)(rg:Bool)(w:World)(h:cK (EF b5) 1 w w.heap.size A n l)(hp:cK (EF b5) 1 w w.heap.size B m pkq7)(hrq7:cK (EF b5) 1 w w.heap.size C k r)(hc:n<=c) :
  Calls Tryz.prog 5 #[.slice A n c,.slice B m d,.slice C k c3,.bool rg] w λe w'=>e=.returned (.bool true)/\Below w.heap.size w w':=by
 go_enter Tryz.func5,Tryz.ntmps5;go_wp2_with(fail);refine(state_any A B n c m d l pkq7 w h hp hc).mono ?_;rintro e w1q7 ⟨u,s,⟨GA,gn,gc,MA,mn,mc,PA,pn,pc⟩,⟨SA,snq7,scq7,TA,tn,tc,HA,hn,hc2⟩,rfl,_,hwa,hE1⟩;have H1:=ad (And.intro hwa (And.intro hE1 (hrq7.cS (Fr.ext hE1) hE1.size)));clear hwa hE1 h hp hrq7;dsimp only[UV.val,SV.val];go_upto_region 2 with(fail);generalize hX:World.alloc _ _=X;have hEX:Ext w1q7 X:=by rw[<-hX];exact((Fr.refl _ _).alloc _).alloc _
 have hB4:an X w1q7.heap.size 26 #[.slice GA gn gc,.slice MA mn mc,.slice PA pn pc,.int .i64 u.main]:=by rw[<-hX];exact(an.new _ _ _).alloc _
 have hB5:an X (w1q7.heap.size+1) 30 #[.slice SA snq7 scq7,.slice TA tn tc,.slice HA hn hc2,.int .i64 s.fault]:=by rw[<-hX];exact an.hY _ _ _ (by simp)
 have HXq7:=ad (And.intro (H1.o.1.on hEX) (And.intro (H1.o.2.1.trans hEX) (And.intro hB4 (And.intro hB5 (H1.o.2.2.cS (Fr.ext hEX) hEX.size)))));have hXs:=hB5.lt;have np:=(H1.o.2.1).size;clear hX hEX hB4 hB5;cases rg
 case' false=>
  go_upto_region 4 with(fail);have HYq7:=ad (And.intro HXq7.o.1 (And.intro HXq7.o.2.1 (And.intro HXq7.o.2.2.1 HXq7.o.2.2.2.1)));clear HXq7;generalize X=Y at *
 case' true=>
  obtain⟨x0q7,x0f,x0l⟩:=HXq7.o.2.2.1.two;go_wp2_with(fail);refine(ring_any C k c3 r X HXq7.o.2.2.2.2).mono ?_;rintro e w2q7 ⟨u,s,⟨GA,gn,gc,MA,mn,mc,PA,pn,pc⟩,⟨SA,snq7,scq7,TA,tn,tc,HA,hn,hc2⟩,rfl,hwa,hE2⟩;have hs2:=hE2.size;have H2q7:=ad (And.intro hwa hE2);clear hwa x0q7 x0f x0l;obtain⟨x0q7,x0f,x0l⟩:=(HXq7.o.2.2.1.aj hE2).two;obtain⟨y0q7,y0f,y0l⟩:=(HXq7.o.2.2.2.1.aj hE2).two;clear hE2;dsimp only[UV.val,SV.val];go_upto_region 4 with(fail);generalize hEq7:World.setCell (World.setCell (World.setCell (World.setCell w2q7 _ _) _ _) _ _) _ _=E;obtain⟨hBE,hEE,hFE⟩:=cm (w:=w) [.slice GA gn gc,.slice MA mn mc,.slice PA pn pc,.int .i64 u.main] (by rfl) (HXq7.o.2.2.1.aj H2q7.o.2) (HXq7.o.2.1.trans H2q7.o.2) ab hEq7;have hB1:=(HXq7.o.2.2.2.1.aj H2q7.o.2).on hFE ab;have hes:=hFE.size;generalize hYq7:World.setCell _ _ _=Y;obtain⟨hBY,hEY,hFY⟩:=cm (w:=w) [.slice SA snq7 scq7,.slice TA tn tc,.slice HA hn hc2,.int .i64 s.fault] (by rfl) hB1 hEE ab hYq7;have hys:=hFY.size;have HYq7:=ad (And.intro (H2q7.o.1 Y ab λb h1q7 h2q7=>(hFY.block b ab ab).trans (hFE.block b h2q7 ab)).1 (And.intro hEY (And.intro (hBE.on hFY ab) hBY)));clear hEq7 hBE hEE hFE hB1 hYq7 hBY hEY hFY x0q7 x0f x0l y0q7 y0f y0l HXq7 H2q7
 all_goals
  have hn1:=(HYq7.o.1.len).2.2;have ht1:=(HYq7.o.1.len).1;simp only at hn1 ht1;obtain⟨x0q7,x0f,x0l⟩:=HYq7.o.2.2.1.two;obtain⟨y0q7,y0f,y0l⟩:=HYq7.o.2.2.2.two;have hd1:=dead_few (u:=u) (s:=s);have hc1:=cyc_few (u:=u) (s:=s);have hcd:=IG (j3 HYq7.o.1.hS);have HCY:=ad λ(i:Nat) (x:Int) hiq7=>cyc_waits (u:=u) HYq7.o.1.hS (i:=i) (x:=x) hiq7;go_wp2_with(fail);refine(mcycle u s 60 Y ⟨GA,gn,gc,MA,mn,mc,PA,pn,pc⟩ ⟨SA,snq7,scq7,TA,tn,tc,HA,hn,hc2⟩ HYq7.o.1).mono ?_;rintro e w3q7 ⟨A1q7,c1,rfl,_,hsl,hEq7⟩;have H3q7:=ad (And.intro hsl hEq7);clear x0q7 x0f x0l y0q7 y0f y0l;obtain⟨x0q7,x0f,x0l⟩:=(HYq7.o.2.2.1.aj (H3q7.o.2)).two;obtain⟨y0q7,y0f,y0l⟩:=(HYq7.o.2.2.2.aj (H3q7.o.2)).two;clear hsl hEq7;generalize ma (aI u s)=L at *;generalize hN:L.length=N at *;go_wp2_with(fail);refine(mdead u s 60 w3q7 ⟨GA,gn,gc,MA,mn,mc,PA,pn,pc⟩ ⟨SA,snq7,scq7,TA,tn,tc,HA,hn,hc2⟩ (HYq7.o.1.on H3q7.o.2)).mono ?_;rintro e w4q7 ⟨A2,c2,rfl,_,_,hEq7⟩;have H4q7:=ad (And.intro (H3q7.o.1.cS (Fr.ext hEq7) hEq7.size) (H3q7.o.2.trans hEq7));have HNq7:=ad hN;clear x0q7 x0f x0l y0q7 y0f y0l;clear hEq7 hN;generalize (gx (aI u s)).length=M at *;have hqq7:(decide ((0:Int)<(N:Int)) != decide ((0:Int)<(M:Int)))=false:=by
   rcases Nat.eq_zero_or_pos N with h|h
   .have:M=0:=ab;subst h this;rfl
   .have:0<M:=ab;rw[decide_eq_true ab,decide_eq_true ab];rfl
  clear hcd;go_wp2_with(fail);go_loopw [12] (λivq7 wr=>∃i:Nat,ivq7=.int .i64 i/\i<=N/\Ext w4q7 wr) (λivq7 _=>N - (intOf ivq7).toNat)
  case atStart=>exact⟨0,rfl,ab,Fr.refl _ _⟩
  case round=>
   obtain⟨i,rfl,hiq7,hEq7⟩:=hrel;have HEq7:=ad (And.intro (H4q7.o.1.cS (Fr.ext hEq7) hEq7.size) (H4q7.o.2.trans hEq7));have HE4:=ad hEq7;clear hEq7;by_cases hlt:i<N
   .have hlt1:(i:Int)<(N:Int):=ab;obtain⟨b,o,x,rfl,hbb,hx,c0⟩:=HEq7.o.1.int hlt;obtain⟨ee,ooq7,yyq7,hw,hl1,hl0,hyx⟩:=HCY.o i x hx;obtain⟨j,hjq7⟩:∃j,j=(i+1) % N:=⟨_,rfl⟩
    have hjN:j<N:=by rw[hjq7];exact Nat.mod_lt _ ab
    have hji:((i:Int)+1) % (N:Int)=(j:Int):=by rw[hjq7,Int.natCast_emod,Int.natCast_add];rfl
    rw[<-hjq7] at hl1;have HFq7:=ad (And.intro hx (And.intro hl1 (And.intro hl0 hw)));clear hx hl1 hl0 hw hjq7;obtain⟨x0q7,x0f,x0l⟩:=(HYq7.o.2.2.1.aj HEq7.o.2).two;obtain⟨y0q7,y0f,y0l⟩:=(HYq7.o.2.2.2.aj HEq7.o.2).two;go_upto_region 10 with(fail);refine eU (λ_=>False) [(0,0),(1,0),(2,3),(3,3),(4,3),(5,0),(6,1),(7,3),(8,3),(9,3),(10,3),(11,3),(12,3),(13,3)] ?_
    iterate 2 refine ph ?_
    iterate 3 refine pf ?_
    refine ph ?_;refine aO rfl (λK hK=>?_);go_simp;refine(waiting_any false u s x 60 wr.drew ⟨GA,gn,gc,MA,mn,mc,PA,pn,pc⟩ ⟨SA,snq7,scq7,TA,tn,tc,HA,hn,hc2⟩ (HYq7.o.1.on HEq7.o.2.drew)).mono ?_;rintro e w5q7 ⟨rfl,hEq7⟩;rw[HFq7.o.2.2.2];dsimp only[Option.map,Option.getD,Option.isSome];refine ei hK (hEq7) ?_;clear hK K;have hE5:=Fr.aQ hEq7;have H5q7:=ad (And.intro (HEq7.o.1.cS (Fr.ext hE5) hE5.size) (And.intro (HEq7.o.2.trans hE5) (HE4.o.trans hE5)));have c1:w5q7.cell? ⟨b,o+i,none⟩=_:=(hE5.cell hbb λh=>h).trans c0;have hb5:=Nat.lt_of_lt_of_le hbb hE5.size;clear hEq7 hE5 c0 hbb;clear x0q7 x0f x0l y0q7 y0f y0l
    iterate 7 refine pf ?_
    refine aB ?_;have c2:=H5q7.o.1.int_at (k:=j) HFq7.o.2.1;have c3:=H5q7.o.1.int_at (k:=0) HFq7.o.2.2.1;simp only[Nat.add_zero] at c3;have hNz:¬N=0:=ab;have hN0:0<N:=ab;have hw1:IntKind.i64.wrap ((i:Int)+1)=(i:Int)+1:=IntWalk.i64_in _ ab;have htm:Int.tmod ((i:Int)+1) (N:Int)=(j:Int):=by rw[Int.tmod_eq_emod_of_nonneg ab];exact hji
    clear hji;have hjj:(j:Int)<(N:Int):=ab;have hoo:(ooq7 != ooq7)=false:=by simp
    have hxy:decide (x<yyq7)=false:=by simp;omega
    go_upto_region 11 with(fail);refine eU (λ_=>False) [(0,3),(1,3),(2,3),(3,3),(4,3),(5,3),(6,3),(7,3),(8,3),(9,3),(10,3),(11,0),(12,3),(13,3),(14,3),(15,3),(16,3),(17,3),(18,0),(19,3),(20,3),(21,0),(22,3),(23,3)] ?_
    iterate 11 refine pf ?_
    refine ph ?_
    iterate 6 refine pf ?_
    refine ph ?_
    iterate 2 refine pf ?_
    refine ph ?_
    iterate 2 refine pf ?_
    refine aB ?_;go_wp2_with(fail);go_roundw
    case rel=>exact⟨i+1,by go_num,ab,H5q7.o.2.2.drew⟩
    case measure=>simp[intOf]<;>omega
   .have hlt1:¬(i:Int)<(N:Int):=ab;go_wp2_with(fail);refine(awake11 wr).mono ?_;rintro e w20 ⟨rfl,hEq7⟩;have H20:=ad ((HYq7.o.2.1.trans HEq7.o.2).trans hEq7);clear hEq7;go_wp2_with(fail);go_ret;exact⟨rfl,Fr.ext H20.o⟩
end Go.Proofs.YtflecliffjbleaaGreat

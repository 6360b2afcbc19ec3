/- The law WaitsSet, walked. No condition but the gy of slices. -/
import Derived.Test.YtflecliffjbleaaGreatELawWx
namespace Go.Proofs.YtflecliffjbleaaGreat
open Go.RowKit
set_option maxRecDepth 1000000
set_option linter.unusedVariables false
set_option maxRecDepth 1000000 in
set_option maxHeartbeats 6400000 in
theorem waitsSet_any(A B C:Option Addr)(n c m d k c3:Nat)(l pkq7 r:List Int)(rg:Bool)(F5q7:Option Addr)(n5 c5q7:Nat)(S5:List Int)(w:World)(h:cK (EF b5) 1 w w.heap.size A n l)(hp:cK (EF b5) 1 w w.heap.size B m pkq7)(hrq7:cK (EF b5) 1 w w.heap.size C k r)(hs5:cK (EF b5) 1 w w.heap.size F5q7 n5 S5)(hc:n<=c) :
  Calls Tryz.prog 4 #[.slice A n c,.slice B m d,.slice C k c3,.bool rg,.slice F5q7 n5 c5q7] w λe w'=>e=.returned (.bool true)/\Below w.heap.size w w':=by
 go_enter Tryz.func4,Tryz.ntmps4;go_wp2_with(fail);refine(state_any A B n c m d l pkq7 w h hp hc).mono ?_;rintro e w1q7 ⟨u,s,⟨GA,gn,gc,MA,mn,mc,PA,pn,pc⟩,⟨SA,snq7,scq7,TA,tn,tc,HA,hn,hc2⟩,rfl,_,hwa,hE1⟩;have H1:=ad (And.intro hwa (And.intro hE1 (hrq7.cS (Fr.ext hE1) hE1.size)));have HS5:=ad hs5;clear hwa hE1 h hp hrq7 hs5;dsimp only[UV.val,SV.val];go_upto_region 2 with(fail);generalize hX:World.alloc _ _=X;have hEX:Ext w1q7 X:=by rw[<-hX];exact((Fr.refl _ _).alloc _).alloc _
 have hB4:an X w1q7.heap.size 26 #[.slice GA gn gc,.slice MA mn mc,.slice PA pn pc,.int .i64 u.main]:=by rw[<-hX];exact(an.new _ _ _).alloc _
 have hB5:an X (w1q7.heap.size+1) 30 #[.slice SA snq7 scq7,.slice TA tn tc,.slice HA hn hc2,.int .i64 s.fault]:=by rw[<-hX];exact an.hY _ _ _ (by simp)
 have HXq7:=ad (And.intro (H1.o.1.on hEX) (And.intro (H1.o.2.1.trans hEX) (And.intro hB4 (And.intro hB5 (H1.o.2.2.cS (Fr.ext hEX) hEX.size)))));have hXs:=hB5.lt;have np:=(H1.o.2.1).size;clear hX hEX hB4 hB5;cases rg
 case' false=>
  go_upto_region 4 with(fail);have HYq7:=ad (And.intro HXq7.o.1 (And.intro HXq7.o.2.1 (And.intro HXq7.o.2.2.1 HXq7.o.2.2.2.1)));clear HXq7;generalize X=Y at *
 case' true=>
  obtain⟨x0q7,x0f,x0l⟩:=HXq7.o.2.2.1.two;go_wp2_with(fail);refine(ring_any C k c3 r X HXq7.o.2.2.2.2).mono ?_;rintro e w2q7 ⟨u,s,⟨GA,gn,gc,MA,mn,mc,PA,pn,pc⟩,⟨SA,snq7,scq7,TA,tn,tc,HA,hn,hc2⟩,rfl,hwa,hE2⟩;have hs2:=hE2.size;have H2q7:=ad (And.intro hwa hE2);clear hwa x0q7 x0f x0l;obtain⟨x0q7,x0f,x0l⟩:=(HXq7.o.2.2.1.aj hE2).two;obtain⟨y0q7,y0f,y0l⟩:=(HXq7.o.2.2.2.1.aj hE2).two;clear hE2;dsimp only[UV.val,SV.val];go_upto_region 4 with(fail);generalize hEq7:World.setCell (World.setCell (World.setCell (World.setCell w2q7 _ _) _ _) _ _) _ _=E;obtain⟨hBE,hEE,hFE⟩:=cm (w:=w) [.slice GA gn gc,.slice MA mn mc,.slice PA pn pc,.int .i64 u.main] (by rfl) (HXq7.o.2.2.1.aj H2q7.o.2) (HXq7.o.2.1.trans H2q7.o.2) ab hEq7;have hB1:=(HXq7.o.2.2.2.1.aj H2q7.o.2).on hFE ab;have hes:=hFE.size;generalize hYq7:World.setCell _ _ _=Y;obtain⟨hBY,hEY,hFY⟩:=cm (w:=w) [.slice SA snq7 scq7,.slice TA tn tc,.slice HA hn hc2,.int .i64 s.fault] (by rfl) hB1 hEE ab hYq7;have hys:=hFY.size;have HYq7:=ad (And.intro (H2q7.o.1 Y ab λb h1q7 h2q7=>(hFY.block b ab ab).trans (hFE.block b h2q7 ab)).1 (And.intro hEY (And.intro (hBE.on hFY ab) hBY)));clear hEq7 hBE hEE hFE hB1 hYq7 hBY hEY hFY x0q7 x0f x0l y0q7 y0f y0l HXq7 H2q7
 all_goals
  have hn1:=(HYq7.o.1.len).2.2;have ht1:=(HYq7.o.1.len).1;simp only at hn1 ht1;obtain⟨x0q7,x0f,x0l⟩:=HYq7.o.2.2.1.two;obtain⟨y0q7,y0f,y0l⟩:=HYq7.o.2.2.2.two;have hd1:=dead_few (u:=u) (s:=s);have hS:=HYq7.o.1.hS;have HDW:=ad λ(x:Int) hx=>Hr (u:=u) hS (t:=x) hx;have HDG:=ad λ(O:List Int) h1q7 (x:Int) h2q7 h3q7=>v7 (j3 (u:=u) hS) (S:=λt=>t∈O) h1q7 (t:=x) h2q7 h3q7;clear hS;go_wp2_with(fail);refine(mdead u s 60 Y ⟨GA,gn,gc,MA,mn,mc,PA,pn,pc⟩ ⟨SA,snq7,scq7,TA,tn,tc,HA,hn,hc2⟩ HYq7.o.1).mono ?_;rintro e w3q7 ⟨A1q7,c1,rfl,_,hsl,hEq7⟩;have H3q7:=ad (And.intro hsl hEq7);clear x0q7 x0f x0l y0q7 y0f y0l;clear hsl hEq7;generalize hD:gx (aI u s)=D at *;generalize hN:D.length=N at *;have HNq7:=ad (And.intro hN hD);clear hN hD;go_wp2_with(fail);go_loopw [14] (λivq7 wr=>∃i:Nat,ivq7=.int .i64 i/\i<=N/\Ext w3q7 wr) (λivq7 _=>N - (intOf ivq7).toNat)
  case atStart=>exact⟨0,rfl,ab,Fr.refl _ _⟩
  case round=>
   obtain⟨i,rfl,hiq7,hEq7⟩:=hrel;have HEq7:=ad (And.intro (H3q7.o.1.cS (Fr.ext hEq7) hEq7.size) (And.intro (H3q7.o.2.trans hEq7) hEq7));clear hEq7;by_cases hlt:i<N
   .have hlt1:(i:Int)<(N:Int):=ab;obtain⟨b,o,x,rfl,hbb,hx,c0⟩:=HEq7.o.1.int hlt;obtain⟨ee,ooq7,hw,hoq7,_⟩:=HDW.o x (List.mem_of_getElem? hx);have HFq7:=ad (And.intro hw hoq7);clear hx hw hoq7;obtain⟨x0q7,x0f,x0l⟩:=(HYq7.o.2.2.1.aj HEq7.o.2.1).two;obtain⟨y0q7,y0f,y0l⟩:=(HYq7.o.2.2.2.aj HEq7.o.2.1).two;go_upto_region 8 with(fail);refine eU (λ_=>False) [(0,0),(1,0),(2,3),(3,3),(4,3),(5,0),(6,1),(7,3),(8,3),(9,3),(10,3),(11,3),(12,3),(13,3)] ?_
    iterate 2 refine ph ?_
    iterate 3 refine pf ?_
    refine ph ?_;refine aO rfl (λK hK=>?_);go_simp;refine(waiting_any false u s x 60 wr.drew ⟨GA,gn,gc,MA,mn,mc,PA,pn,pc⟩ ⟨SA,snq7,scq7,TA,tn,tc,HA,hn,hc2⟩ (HYq7.o.1.on HEq7.o.2.1.drew)).mono ?_;rintro e w5q7 ⟨rfl,hEq7⟩;rw[HFq7.o.1];dsimp only[Option.map,Option.getD,Option.isSome];refine ei hK (hEq7) ?_;clear hK K;have hE5:=Fr.aQ hEq7;have H5q7:=ad (And.intro (HEq7.o.1.cS (Fr.ext hE5) hE5.size) (HEq7.o.2.2.trans hE5));clear hEq7 hE5 c0 hbb;clear x0q7 x0f x0l y0q7 y0f y0l
    iterate 7 refine pf ?_
    refine aB ?_;go_wp2_with(fail);refine(hasI_any (some ⟨b,o,none⟩) N c1 D ooq7 w5q7 H5q7.o.1 ab).mono ?_;rintro e w6q7 ⟨rfl,rfl⟩;rw[decide_eq_true HFq7.o.2];go_wp2_with(fail);go_roundw
    case rel=>exact⟨i+1,by go_num,ab,H5q7.o.2⟩
    case measure=>simp[intOf]<;>omega
   .have hlt1:¬(i:Int)<(N:Int):=ab;have HE3:=ad (And.intro HEq7.o.1 (And.intro HEq7.o.2.1 (HS5.o.cS (Fr.ext (HYq7.o.2.1.trans HEq7.o.2.1)) (HYq7.o.2.1.trans HEq7.o.2.1).size)));clear HEq7 H3q7 HS5;go_upto_region 11 with(fail);obtain⟨w6q7,hw6⟩:∃w6q7,w6q7=wr:=⟨_,rfl⟩
    rw[<-hw6] at HE3 ⊢;clear hw6;go_wp2_with(fail);go_loopw [18,19] (λovq7 ivq7 w7q7=>∃(i M:Nat) (O:List Int),ivq7=.int .i64 i/\i<=hn/\i<=n5/\M<=i/\O.length=M/\w7q7.ownsRow w6q7.heap.size 3 1 ovq7 M (O.flatMap b5)/\(∀x∈O,0<=x/\x<hn)/\Below w6q7.heap.size w6q7 w7q7) (λ_ ivq7 _=>hn - (intOf ivq7).toNat)
    case atStart=>exact⟨0,0,[],rfl,ab,ab,ab,rfl,World.ownsRow_nil _ _ _ _,λx h=>absurd h (by simp),Below.refl _ _⟩
    case round=>
     obtain⟨i2,M,O,rfl,hi2,hi5,hM,hOq7,hown,hin,hbq7⟩:=hrel;have hEq7:=rG hbq7;have HBq7:=ad (And.intro hOq7 hin);have HE6:=ad hEq7;obtain⟨y0q7,y0f,y0l⟩:=(HYq7.o.2.2.2.aj (HE3.o.2.1.trans hEq7)).two;clear hOq7 hin;have hbs:=hbq7.size;by_cases hth:i2<hn
     case' pos=>
      have hth1:(i2:Int)<(hn:Int):=ab;by_cases hl5:i2<n5
      case' pos=>
       have hl51:(i2:Int)<(n5:Int):=ab;obtain⟨b2q7,o2q7,x2q7,rfl,hbb2,hx2,c2⟩:=(HE3.o.2.2.cS (Fr.ext hEq7) hEq7.size).int hl5;clear hx2 hEq7;go_wp2_with(at_builtin;refine bV _ de (by rfl) (.tmp 84) (.tmp 86) (by rfl) w6q7.heap.size _ _ _ _ (by rfl) hown (by rfl) (by rfl) (g5 _ _) ab ab hbs ?_;intro v1 w8q7 hown1 hg1 hat1)
       .go_roundw
        case rel=>exact⟨i2+1,M+1,O++[(i2:Int)],by go_num,ab,ab,ab,by rw[List.length_append,HBq7.o.1];rfl,by rw[ey];exact hown1,λx hx=>by
         rcases List.mem_append.1 hx with h|h
         .exact HBq7.o.2 x h
         .rw[List.mem_singleton] at h;omega,dk hbq7 hown hg1 (Nat.le_refl _) hbs⟩
        case measure=>simp[intOf]<;>omega
       .go_roundw
        case rel=>exact⟨i2+1,M,O,by go_num,ab,ab,ab,HBq7.o.1,hown,HBq7.o.2,hbq7⟩
        case measure=>simp[intOf]<;>omega
      case' neg=>
       have hl51:¬(i2:Int)<(n5:Int):=ab;go_wp2_with(fail)
     case' neg=>
      have hth1:¬(i2:Int)<(hn:Int):=ab;go_wp2_with(fail)
     all_goals
      obtain⟨OA,ocq7,rfl,hoc,_,_,_⟩:=bx hown;have wi:cK (EF b5) 1 wr wr.heap.size OA M O:=g6 hown (iA _) HBq7.o.1;have HRq7:=ad (And.intro wi (And.intro (HE3.o.1.cS (Fr.ext HE6.o) HE6.o.size) (HE3.o.2.1.trans HE6.o)));have hM32:M<=32:=ab;clear hown hbq7 hbs wi HE6 HE3 y0q7 y0f y0l;generalize wr=w8q7 at *;go_loopw [20,21] (λbv ivq7 w9q7=>∃(i:Nat) (bIq7:Bool),ivq7=.int .i64 i/\bv=.bool bIq7/\i<=M/\(bIq7=true↔∀(j:Nat) (x:Int),j<i->O[j]?=some x->x∈D)/\(∀(j:Nat) (x:Int),j<i->O[j]?=some x->∃e o,cR u s x=some (e,o)/\o∈O)/\Ext w8q7 w9q7) (λ_ ivq7 _=>M - (intOf ivq7).toNat)
      case atStart=>exact⟨0,true,rfl,rfl,ab,⟨λ_ j x h=>ab,λ_=>rfl⟩,λj x h=>ab,Fr.refl _ _⟩
      case round=>
       obtain⟨i3,bIq7,rfl,rfl,hi3,hbI,hw3,hEq7⟩:=hrel;have HQq7:=ad (And.intro hbI hw3);have HE7:=ad (And.intro (HRq7.o.1.cS (Fr.ext hEq7) hEq7.size) (And.intro (HRq7.o.2.1.cS (Fr.ext hEq7) hEq7.size) (And.intro (HRq7.o.2.2.trans hEq7) hEq7)));clear hbI hw3 hEq7;by_cases hlt3:i3<M
       .have hlt31:(i3:Int)<(M:Int):=ab;obtain⟨b3q7,o3,x3q7,rfl,hbb3,hx3,c0⟩:=HE7.o.1.int hlt3;have HX3:=ad hx3;clear hx3;obtain⟨x0q7,x0f,x0l⟩:=(HYq7.o.2.2.1.aj HE7.o.2.2.1).two;obtain⟨y0q7,y0f,y0l⟩:=(HYq7.o.2.2.2.aj HE7.o.2.2.1).two;obtain⟨rrq7,hrr⟩:∃rrq7,cR u s x3q7=rrq7:=⟨_,rfl⟩
        have HRR:=ad hrr;clear hrr;go_upto_region 21 with(fail);refine eU (λ_=>False) [(0,0),(1,0),(2,3),(3,3),(4,3),(5,0),(6,1),(7,3),(8,3),(9,3),(10,3),(11,3),(12,3),(13,3)] ?_
        iterate 2 refine ph ?_
        iterate 3 refine pf ?_
        refine ph ?_;refine aO rfl (λK hK=>?_);go_simp;refine(waiting_any false u s x3q7 60 wr.drew ⟨GA,gn,gc,MA,mn,mc,PA,pn,pc⟩ ⟨SA,snq7,scq7,TA,tn,tc,HA,hn,hc2⟩ (HYq7.o.1.on HE7.o.2.2.1.drew)).mono ?_;rintro e w5q7 ⟨rfl,hEq7⟩;rw[HRR.o];generalize hr1:(rrq7.map Prod.fst).getD 0=r1;generalize hr2:(rrq7.map Prod.snd).getD 0=r2q7;generalize hr3:rrq7.isSome=r3q7;have HR3:=ad (And.intro hr2 hr3);clear hr1 hr2 hr3;refine ei hK (hEq7) ?_;clear hK K;have hE5:=Fr.aQ hEq7;have H5q7:=ad (And.intro (HE7.o.1.cS (Fr.ext hE5) hE5.size) (And.intro (HE7.o.2.1.cS (Fr.ext hE5) hE5.size) (And.intro (HE7.o.2.2.1.trans hE5) (HE7.o.2.2.2.trans hE5))));clear hEq7 hE5 c0 hbb3;clear x0q7 x0f x0l y0q7 y0f y0l
        iterate 7 refine pf ?_
        refine aB ?_;cases rrq7
        case none=>
         obtain rfl:r3q7=false:=HR3.o.2.symm;go_wp2_with(fail);refine(awake11 w5q7).mono ?_;rintro e w20 ⟨rfl,hEq7⟩;have H20:=ad ((HYq7.o.2.1.trans H5q7.o.2.2.1).trans hEq7);clear hEq7;go_wp2_with(fail);go_ret;exact⟨rfl,Fr.ext H20.o⟩
        case some ro=>
         obtain⟨ee,ooq7⟩:=ro;obtain rfl:r3q7=true:=HR3.o.2.symm;obtain rfl:r2q7=ooq7:=HR3.o.1.symm;go_wp2_with(fail);refine(hasI_any (some ⟨b3q7,o3,none⟩) M ocq7 O r2q7 w5q7 H5q7.o.1 ab).mono ?_;rintro e w6q7 ⟨rfl,rfl⟩;by_cases hm:r2q7∈O
         .rw[decide_eq_true hm];have HMq7:=ad hm;clear hm;have HW3:=ad (show ∀(j:Nat) (x:Int),j<i3+1->O[j]?=some x->∃e o,cR u s x=some (e,o)/\o∈O from λj x hjq7 hx=>by
           by_cases hji:j=i3
           .subst hji;rw[HX3.o] at hx;injection hx with hx;subst hx;exact⟨_,_,HRR.o,HMq7.o⟩
           .exact HQq7.o.2 j x ab hx)
          cases bIq7
          .go_wp2_with(fail);go_roundw
           case rel=>exact⟨i3+1,false,by go_num,rfl,ab,⟨λh=>(by cases h),λh=>HQq7.o.1.2 λj x hjq7 hx=>h j x ab hx⟩,HW3.o,H5q7.o.2.2.2⟩
           case measure=>simp[intOf]<;>omega
          .have c5q7:=H5q7.o.1.int_at HX3.o;have hb5:=H5q7.o.1.lt_at HX3.o;go_wp2_with(fail);refine(hasI_any A1q7 N c1 D x3q7 w5q7 H5q7.o.2.1 ab).mono ?_;rintro e w6q7 ⟨rfl,rfl⟩;obtain⟨bDq7,hbD⟩:∃bDq7,bDq7=decide (x3q7∈D):=⟨_,rfl⟩
           have HBD:=ad hbD;rw[<-hbD];clear hbD;go_wp2_with(fail);go_roundw
           case rel=>exact⟨i3+1,bDq7,by go_num,rfl,ab,⟨λh j x hjq7 hx=>by
            by_cases hji:j=i3
            .subst hji;rw[HX3.o] at hx;injection hx with hx;subst hx;rw[HBD.o] at h;simpa using h
            .exact HQq7.o.1.1 (by trivial) j x ab hx,λh=>by rw[HBD.o];simpa using h i3 x3q7 ab HX3.o⟩,HW3.o,H5q7.o.2.2.2⟩
           case measure=>simp[intOf]<;>omega
         .rw[decide_eq_false hm];clear hm;go_wp2_with(fail);refine(awake11 w5q7).mono ?_;rintro e w20 ⟨rfl,hEq7⟩;have H20:=ad ((HYq7.o.2.1.trans H5q7.o.2.2.1).trans hEq7);clear hEq7;go_wp2_with(fail);go_ret;exact⟨rfl,Fr.ext H20.o⟩
       .have hlt31:¬(i3:Int)<(M:Int):=ab;have hiM:i3=M:=ab;subst hiM;have hall:∀x∈O,∃e o,cR u s x=some (e,o)/\o∈O:=λx hx=>by
         obtain⟨j,hjq7⟩:=List.mem_iff_getElem?.1 hx;exact HQq7.o.2 j x (by have:=(List.getElem?_eq_some_iff.1 hjq7).1;have:=HBq7.o.1;omega) hjq7
        have hbt:bIq7=true:=HQq7.o.1.2 λj x _ hx=>HDG.o O (λt ht=>⟨(HBq7.o.2 t ht).1,by
         obtain⟨e,o,hw,hoq7⟩:=hall t ht;rw[iZ,hw];exact hoq7⟩) x (List.mem_of_getElem? hx) (by rw[dC];have:=(HBq7.o.2 x (List.mem_of_getElem? hx)).2;omega)
        subst hbt;clear hall;go_wp2_with(fail);refine(awake11 wr).mono ?_;rintro e w20 ⟨rfl,hEq7⟩;have H20:=ad ((HYq7.o.2.1.trans HE7.o.2.2.1).trans hEq7);clear hEq7;go_wp2_with(fail);go_ret;exact⟨rfl,Fr.ext H20.o⟩
end Go.Proofs.YtflecliffjbleaaGreat

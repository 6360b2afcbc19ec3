/- The law ScheduleFair, walked. No condition but the fB of slices. -/
import Derived.Test.YtkhnkojkplbioaaGreatESchC
import Derived.Test.YtkhnkojkplbioaaGreatESchG
namespace Go.Proofs.YtkhnkojkplbioaaGreat
open Go.RowKit
set_option maxRecDepth 1000000
set_option linter.unusedVariables false
set_option maxRecDepth 1000000 in
set_option maxHeartbeats 1600000 in
theorem scheduleFair_any(A:Option Addr)(n c:Nat)(l:List Int)(r0q7:Int)(raw:Bool)(w:World)(h:cp (EF cP) 1 w w.heap.size A n l)  (hc:n<=c) :
  Calls Tryz.prog 12 #[.slice A n c,.int .i64 r0q7,.bool raw] w λe w'=>e=.returned (.bool true)/\Below w.heap.size w w':=by
 have H:=ae (And.intro h trivial);clear h;go_enter Tryz.func12,Tryz.ntmps12;go_wp2_with(fail);refine(Fi A n c l w H.o.1 hc).mono ?_;rintro e w1q7 ⟨u,b0q7,b1q7,b2q7,b3q7,b4,b5q7,m0q7,m1q7,m2q7,m3q7,m4q7,m5q7,d0,d1,d2,d3,d4,d5,GA,gn,gc,MA,mn,mc,PA,pn,pc,rfl,hU,_,_,_,hrep,hE1⟩;have hu1:(⟨GA,gn,gc,MA,mn,mc,PA,pn,pc⟩:UV).Ok w1q7 u:=uvAt hrep λb hbq7=>hbq7.2;have H1:=ae (And.intro hU (And.intro hu1 hE1));clear hU hu1 hE1 hrep;go_upto_region 2 with(fail);generalize hX:World.alloc _ _=X;have hEX:Ext w1q7 X:=by rw[<-hX];exact(((Fr.refl _ _).alloc _).alloc _).alloc _
 have hBX:aq X (w1q7.heap.size+1) 30 #[.slice GA gn gc,.slice MA mn mc,.slice PA pn pc,.int .i64 u.main]:=by rw[<-hX];exact(aq.gC _ _ _ (by simp)).alloc _
 have hEw:=H1.o.2.2.trans hEX;have HXq7:=ae (And.intro (H1.o.2.1.on hEX) (And.intro hEw hBX));clear hX hEX hBX hEw;have hz0:=tS (x:=r0q7) (n:=50) ad;generalize hzq7:within r0q7 50=z at *;have HZZ:=ae hzq7;clear hzq7;cases raw
 case' false=>
  go_wp2_with(fail);refine(my r0q7 50 ad ad _).mono ?_;rintro r w' ⟨rfl,rfl⟩;rw[HZZ.o];obtain⟨x0q7,x0f,x0l⟩:=HXq7.o.2.2.two;go_upto_region 4 with(fail);have hr2:∃r2q7:Int,z - 2=r2q7/\r2q7<=50:=⟨_,rfl,ad⟩
  obtain⟨r2q7,hr2,hr5⟩:=hr2;rw[hr2];clear hr2
 case' true=>
  by_cases h5q7:r0q7 > 50
  case' pos=>
   go_wp2_with(fail);refine(my r0q7 50 ad ad _).mono ?_;rintro r w' ⟨rfl,rfl⟩;rw[HZZ.o];obtain⟨x0q7,x0f,x0l⟩:=HXq7.o.2.2.two;go_upto_region 4 with(fail);have hr2:∃r2q7:Int,z - 2=r2q7/\r2q7<=50:=⟨_,rfl,ad⟩
   obtain⟨r2q7,hr2,hr5⟩:=hr2;rw[hr2];clear hr2
  case' neg=>
   obtain⟨x0q7,x0f,x0l⟩:=HXq7.o.2.2.two;go_upto_region 4 with(fail);have hr2:∃r2q7:Int,r0q7=r2q7/\r2q7<=50:=⟨_,rfl,ad⟩
   obtain⟨r2q7,hr2,hr5⟩:=hr2;rw[hr2];clear hr2 h5q7
 all_goals
  go_wp2_with(fail);refine(sfair u r2q7 r2q7.toNat X ⟨GA,gn,gc,MA,mn,mc,PA,pn,pc⟩ H1.o.1 HXq7.o.1 hr5 rfl).mono ?_;rintro e w4q7 ⟨⟨SC,cmq7,cdq7,TC,tm2,td2,HCq7,hm2,hd2⟩,QA,qnq7,qc,rfl,hq4,hqn,hqc,hql,hE4⟩;have hrf:∀V,Ext X V->Calls Tryz.prog 42 #[.agg ((⟨GA,gn,gc,MA,mn,mc,PA,pn,pc⟩:UV).val u),.int .i64 r2q7] V (FairRes V (fairS u r2q7.toNat (dG u)).1 (fairS u r2q7.toNat (dG u)).2):=λV hV=>rfair u r2q7 r2q7.toNat V ⟨GA,gn,gc,MA,mn,mc,PA,pn,pc⟩ H1.o.1 (HXq7.o.1.on hV) hr5 rfl;have hfr:=fair_run (u:=u) r2q7.toNat (dG u);have hfu:=fair_use (u:=u) r2q7.toNat (dG u);have hfo:=fair_ok H1.o.1.ok r2q7.toNat;generalize fairS u r2q7.toNat (dG u)=R at *;obtain⟨S,L⟩:=R;simp only at hq4 hqn hql hrf hfr hfu hfo;have hsm:=hfo.1.small H1.o.1.ok ad;have hqn2:qnq7<=1600:=ad;have H4q7:=ae (And.intro hq4 (And.intro hql (And.intro hE4 (And.intro hrf (And.intro hsm (And.intro hfr (And.intro hfu hqn)))))));clear hq4 hE4 x0q7 x0f x0l hrf hfr hfu hfo hsm hql hqn;dsimp only[SV.val];go_upto_region 5 with(fail);generalize hZq7:World.alloc _ _=Z;have hEZ:Ext w4q7 Z:=by rw[<-hZq7];exact(Fr.refl _ _).alloc _
  have hBZ:aq Z w4q7.heap.size 40 #[.slice SC cmq7 cdq7,.slice TC tm2 td2,.slice HCq7 hm2 hd2,.int .i64 S.fault]:=by rw[<-hZq7];exact aq.new _ _ _
  have HZq7:=ae (And.intro (H4q7.o.1.on hEZ) (And.intro (H4q7.o.2.2.1.trans hEZ) (And.intro hBZ (H4q7.o.2.1.on (Fr.ext hEZ)))));clear hZq7 hEZ hBZ;obtain⟨x0q7,x0f,x0l⟩:=(HXq7.o.2.2.aj HZq7.o.2.1).two;go_wp2_with(fail);refine(H4q7.o.2.2.2.1 Z HZq7.o.2.1).mono ?_;rintro e w5q7 ⟨⟨SD,dmq7,ddq7,TD,tm3,td3,HDq7,hm3,hd3⟩,PB,pm,pdq7,rfl,hq5,hpm,hpd,hpl,hE5⟩;have H5q7:=ae (And.intro hq5 (And.intro hpl hE5));clear hq5 hE5 hpl hpm x0q7 x0f x0l;dsimp only[SV.val];go_upto_region 6 with(fail);generalize hV:World.alloc _ _=V;have hEV:Ext w5q7 V:=by rw[<-hV];exact(Fr.refl _ _).alloc _
  have hBV:aq V w5q7.heap.size 40 #[.slice SD dmq7 ddq7,.slice TD tm3 td3,.slice HDq7 hm3 hd3,.int .i64 S.fault]:=by rw[<-hV];exact aq.new _ _ _
  have hZV:=H5q7.o.2.2.trans hEV;have HVq7:=ae (And.intro (H5q7.o.1.on hEV) (And.intro hZV (And.intro hBV (And.intro (H5q7.o.2.1.on (Fr.ext hEV)) (And.intro (HZq7.o.2.2.2.on (Fr.ext hZV)) (HZq7.o.2.1.trans hZV))))));clear hV hEV hBV hZV;obtain⟨x0q7,x0f,x0l⟩:=(HXq7.o.2.2.aj HVq7.o.2.2.2.2.2).two;go_wp2_with(fail);have hrn:=srun u L QA qnq7 qc V ⟨GA,gn,gc,MA,mn,mc,PA,pn,pc⟩ H1.o.1 (HXq7.o.1.on HVq7.o.2.2.2.2.2) (Sl.ints HVq7.o.2.2.2.2.1) ad;rw[H4q7.o.2.2.2.2.2.1,H4q7.o.2.2.2.2.2.2.1,H4q7.o.2.2.2.2.2.2.2] at hrn;refine hrn.mono ?_;rintro e w6q7 ⟨⟨SE,em,ed,TE,tm4,td4,HEq7,hm4,hd4⟩,rfl,hq6,hE6⟩;have H6q7:=ae (And.intro (hq6.ok λb hbq7=>hbq7.2) hE6);clear hq6 hE6 x0q7 x0f x0l hrn;dsimp only[SV.val];go_upto_region 7 with(fail);generalize hU:World.alloc _ _=U;have hEU:Ext w6q7 U:=by rw[<-hU];exact(Fr.refl _ _).alloc _
  have hBU:aq U w6q7.heap.size 40 #[.slice SE em ed,.slice TE tm4 td4,.slice HEq7 hm4 hd4,.int .i64 S.fault]:=by rw[<-hU];exact aq.new _ _ _
  have hVU:=H6q7.o.2.trans hEU;have HUq7:=ae (And.intro (H6q7.o.1.on hEU) (And.intro hVU hBU));obtain⟨x0q7,x0f,x0l⟩:=(HZq7.o.2.2.1.aj (HVq7.o.2.1.trans hVU)).two;obtain⟨y0q7,y0f,y0l⟩:=(HVq7.o.2.2.1.aj hVU).two;clear hU hEU hBU hVU;have qzq7:((qnq7:Int) == (qnq7:Int))=true:=by simp
  go_wp2_with(fail);refine(sameE S ⟨SC,cmq7,cdq7,TC,tm2,td2,HCq7,hm2,hd2⟩ ⟨SD,dmq7,ddq7,TD,tm3,td3,HDq7,hm3,hd3⟩ U (HZq7.o.1.on (HVq7.o.2.1.trans HUq7.o.2.1)) (HVq7.o.1.on HUq7.o.2.1) H4q7.o.2.2.2.2.1).mono ?_;rintro e w7q7 ⟨rfl,hE7⟩;have H7q7:=ae hE7;clear hE7 x0q7 x0f x0l y0q7 y0f y0l;go_wp2_with(fail);have hUE:=HUq7.o.2.1.trans H7q7.o;refine(ib QA PB qnq7 qc pm pdq7 L L w7q7 (HVq7.o.2.2.2.2.1.on (Fr.ext hUE)) (HVq7.o.2.2.2.1.on (Fr.ext hUE)) ad).mono ?_;rintro e w8q7 ⟨rfl,hE8⟩;have hdt:decide (L=L)=true:=by simp
  have H8q7:=ae (H7q7.o.trans (Fr.of hE8));clear hE8 hUE;obtain⟨x0q7,x0f,x0l⟩:=(HZq7.o.2.2.1.aj (HVq7.o.2.1.trans (HUq7.o.2.1.trans H8q7.o))).two;obtain⟨y0q7,y0f,y0l⟩:=(HUq7.o.2.2.aj H8q7.o).two;go_wp2_with(fail);refine(sameE S ⟨SE,em,ed,TE,tm4,td4,HEq7,hm4,hd4⟩ ⟨SC,cmq7,cdq7,TC,tm2,td2,HCq7,hm2,hd2⟩ w8q7 (HUq7.o.1.on H8q7.o) (HZq7.o.1.on (HVq7.o.2.1.trans (HUq7.o.2.1.trans H8q7.o))) H4q7.o.2.2.2.2.1).mono ?_;rintro e w9q7 ⟨rfl,hE9⟩;have H9q7:=ae (H8q7.o.trans hE9);clear hE9 x0q7 x0f x0l y0q7 y0f y0l;go_wp2_with(fail);refine(awake10 w9q7).mono ?_;rintro e waq7 ⟨rfl,hEa⟩;go_wp2_with(fail);go_ret;exact⟨rfl,Fr.ext ((((HXq7.o.2.1.trans HVq7.o.2.2.2.2.2).trans HUq7.o.2.1).trans H9q7.o).trans hEa)⟩
end Go.Proofs.YtkhnkojkplbioaaGreat

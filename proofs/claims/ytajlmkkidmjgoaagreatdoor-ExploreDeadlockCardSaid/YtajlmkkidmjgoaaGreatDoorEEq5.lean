/- The search of explore: LawXK. No condition of its own. -/
import Derived.Test.YtajlmkkidmjgoaaGreatDoorEEq4
namespace Go.Proofs.YtajlmkkidmjgoaaGreatDoor
open Go.RowKit
set_option maxRecDepth 1000000
set_option linter.unusedVariables false
section
theorem find_short{f:Kn->Bool}:∀{out:List Kn},(out.map λk=>k.2.length).Pairwise (·<=·)->∀{x:Kn},x∈out->f x=true->∃k,out.find? f=some k/\k.2.length<=x.2.length
 | [],_,x,h,_=>by cases h
 | y::out,hs,x,h,hfq7=>by
  rw[List.map_cons,List.pairwise_cons] at hs;rw[List.find?_cons]
  cases hyq7:f y with
  | true=>
   refine⟨y,rfl,?_⟩;rcases List.mem_cons.1 h with rfl|h
   .exact Nat.le_refl _
   .exact hs.1 _ (List.mem_map.2 ⟨x,h,rfl⟩)
  | false=>
   rcases List.mem_cons.1 h with rfl|h
   .rw[hfq7] at hyq7;cases hyq7
   .exact find_short hs.2 h hfq7
theorem search_facts{u:ax}{ST:Int}(h0:ST<=200){P:List Int}{ok all:Bool}{out:List Kn}(h1q7:searchP u ST 150=(P,ok))(h2q7:oQ u ST 150=(out,all)) :
  (ok=true->dC u (dO u) P=P/\P.length<=200/\0<(ni (da u (fL u (dO u) P))).length)/\
   (all=true->∀q:List Int,(q.length:Int)<=ST->dC u (dO u) q=q->0<(ni (da u (fL u (dO u) q))).length->ok=true/\P.length<=q.length):=by
 obtain⟨hok,hre⟩:=explore_ok u ST 150;unfold searchP at h1q7;rw[h2q7] at h1q7 hok hre;simp only at h1q7 hok hre;refine⟨λhoq7=>?_,λhaq7 q hqq7 hu hd=>?_⟩
 .cases hfq7:out.find? (deadK u) with
  | none=>rw[hfq7] at h1q7;simp only at h1q7;injection h1q7 with _ h1q7;rw[hoq7] at h1q7;cases h1q7
  | some k=>
   rw[hfq7] at h1q7;simp only at h1q7;injection h1q7 with h1q7 _;subst h1q7;obtain⟨e1,e2,e3⟩:=hok.run k (List.mem_of_find?_eq_some hfq7);refine⟨e2,ad,?_⟩;have:=List.find?_some hfq7;rw[e1];exact of_decide_eq_true this
 .obtain⟨x,hx,e1,e2⟩:=hre haq7 q ad hu;obtain⟨k,hkq7,e3⟩:=find_short (f:=deadK u) hok.sorted hx (by unfold deadK;rw[e1];exact decide_eq_true hd);rw[hkq7] at h1q7;simp only at h1q7;injection h1q7 with h1q7 h3q7;subst h1q7;exact⟨h3q7.symm,ad⟩
set_option maxRecDepth 1000000 in
set_option maxHeartbeats 6400000 in
theorem exploreDeadlock_any(hAq7:AiC)(A B:Option Addr)(n c m d:Nat)(l pkq7:List Int)(st:Int)(w:World)(h:cJ (EF cD) 1 w w.heap.size A n l)(hp:cJ (EF cD) 1 w w.heap.size B m pkq7)(hc:n<=c)(ht:TabU w.heap.size w) :
  Calls Tryz.prog 5 #[.slice A n c,.slice B m d,.int .i64 st] w λe w'=>e=.returned (.bool true)/\Below w.heap.size w w':=by
 have H:=ae (And.intro hAq7 (And.intro h (And.intro ht hp)));clear hAq7 h ht hp;go_enter Tryz.func5,Tryz.ntmps5;go_wp2_with(fail);refine(unit_any A n c l w H.o.2.1 hc).mono ?_;rintro e w1q7 ⟨u,b0q7,b1q7,b2q7,b3q7,b4,b5q7,m0q7,m1q7,m2q7,m3q7,m4q7,m5q7,d0,d1,d2,d3,d4,d5,GA,gn,gc,MA,mn,mc,PA,pn,pc,rfl,hU,_,_,_,hrep,hE1⟩;have hu1:(⟨GA,gn,gc,MA,mn,mc,PA,pn,pc⟩:UV).Ok w1q7 u:=uvX hrep λb hbq7=>hbq7.2;have H1:=ae (And.intro hU (And.intro hu1 hE1));clear hU hu1 hE1 hrep;go_upto_region 2 with(fail);generalize hX:World.alloc _ _=X;have hEX:Ext w1q7 X:=by rw[<-hX];exact(((Fr.refl _ _).alloc _).alloc _).alloc _
 have hBX:an X (w1q7.heap.size+1) 30 #[.slice GA gn gc,.slice MA mn mc,.slice PA pn pc,.int .i64 u.main]:=by rw[<-hX];exact(an.fu _ _ _ (by simp)).alloc _
 have hEw:=H1.o.2.2.trans hEX;have HX:=ae (And.intro (H1.o.2.1.on hEX) (And.intro hEw (And.intro hBX (λ(V:World) (hV:Ext X V)=>tabX H.o.2.2.1 (hEw.trans hV)))));clear hX hEX hBX hEw;go_wp2_with(fail);refine(within_any st 16 ad ad X).mono ?_;rintro e X1 ⟨rfl,rfl⟩;have hwr:=rV (x:=st) (n:=16) ad;generalize within st 16=ST at *;obtain⟨x0q7,x0f,x0l⟩:=HX.o.2.2.1.two;have hs:=search_any u X ⟨GA,gn,gc,MA,mn,mc,PA,pn,pc⟩ ST 150 H1.o.1 H.o.1 HX.o.1 (HX.o.2.2.2 X (Fr.refl _ _));have hzq7:=λV (hV:Ext X V)=>states_any u V ⟨GA,gn,gc,MA,mn,mc,PA,pn,pc⟩ ST 150 H1.o.1 H.o.1 (HX.o.1.on hV) (HX.o.2.2.2 V hV);obtain⟨P,ok,h1q7⟩:∃P ok,searchP u ST 150=(P,ok):=⟨_,_,rfl⟩
 obtain⟨out,all,h2q7⟩:∃out all,oQ u ST 150=(out,all):=⟨_,_,rfl⟩
 have hfq7:=search_facts ad h1q7 h2q7;rw[h1q7] at hs;rw[h2q7] at hzq7;have HS:=ae (And.intro hs (And.intro hzq7 hfq7));clear hs hzq7 hfq7 h1q7 h2q7;go_wp2_with(fail);refine HS.o.1.mono ?_;rintro e w3q7 ⟨A3q7,n3q7,c3,rfl,hn3,hc3,hl3,hE3⟩;have hn3:P.length=n3q7:=hn3;have H3:=ae (And.intro hE3 (And.intro (show Sl w3q7 (av w3q7) A3q7 n3q7 (P.map D.i) from hl3) hn3));clear hE3 hl3 hn3 hc3 x0q7 x0f x0l;obtain⟨x0q7,x0f,x0l⟩:=(HX.o.2.2.1.aj H3.o.1).two;go_wp2_with(fail);refine(HS.o.2.1 w3q7 H3.o.1).mono ?_;rintro e w4q7 ⟨A4q7,n4q7,c4q7,rfl,hn4,hc4,hl4,hE4⟩;have H4:=ae (H3.o.1.trans hE4);have H4b:=ae (And.intro (Sl.ints H3.o.2.1) hE4);clear hE4 hl4 hn4 hc4 x0q7 x0f x0l;obtain⟨x0q7,x0f,x0l⟩:=(HX.o.2.2.1.aj H4.o).two;cases ok
 case' true=>
  obtain⟨f1,f2,f3⟩:=HS.o.2.2.1 (by first|rfl|trivial);have hn200:n3q7<=200:=by have:=H3.o.2.2;omega
  have hrq7:=srun u P A3q7 n3q7 c3 w4q7 ⟨GA,gn,gc,MA,mn,mc,PA,pn,pc⟩ H1.o.1 (HX.o.1.on H4.o) (H4b.o.1.dh H4b.o.2.ext H4b.o.2.size) ad;rw[f1,H3.o.2.2] at hrq7;have hST:aV u 200 (fL u (dO u) P):=(BU H1.o.1.ok P 0 (dO u) (C2 H1.o.1.ok)).mono ad;generalize fL u (dO u) P=K at *;have HK:=ae (And.intro hrq7 (And.intro hST f3));clear hrq7 hST f1 f2 f3;go_wp2_with(fail);refine HK.o.1.mono ?_;rintro e w5q7 ⟨⟨SB,sm,sdq7,TB,tmq7,tdq7,HB,hm,hd⟩,rfl,hq5,hE5⟩;have H5:=ae (And.intro (hq5.ok λb hbq7=>hbq7.2) hE5);clear hq5 hE5 x0q7 x0f x0l;dsimp only[SV.val];go_upto_region 7 with(fail);generalize hZq7:World.alloc _ _=Z;have hEZ:Ext w5q7 Z:=by rw[<-hZq7];exact(Fr.refl _ _).alloc _
  have hBZ:an Z w5q7.heap.size 45 #[.slice SB sm sdq7,.slice TB tmq7 tdq7,.slice HB hm hd,.int .i64 K.fault]:=by rw[<-hZq7];exact an.new _ _ _
  have hXZ:=H4.o.trans (H5.o.2.trans hEZ);have hdd:=mdead u K 200 Z ⟨GA,gn,gc,MA,mn,mc,PA,pn,pc⟩ ⟨SB,sm,sdq7,TB,tmq7,tdq7,HB,hm,hd⟩ ⟨H1.o.1,HK.o.2.1,ad,HX.o.1.on hXZ,H5.o.1.on hEZ⟩;have hlen:=HK.o.2.2;generalize ni (da u K)=DLq7 at *;have hbq7:((DLq7.length:Int) == 0)=false:=by rw[beq_eq_false_iff_ne];omega
  have qzq7:((n3q7:Int) != (n3q7:Int))=false:=by simp
  have HZ:=ae (And.intro hdd hXZ);obtain⟨z0q7,z0f,z0l⟩:=hBZ.two;obtain⟨x0q7,x0f,x0l⟩:=(HX.o.2.2.1.aj hXZ).two;clear hZq7 hEZ hBZ hXZ hdd hlen;go_wp2_with(fail);refine HZ.o.1.mono ?_;rintro e W9 ⟨DAq7,dcq7,rfl,hdc,hdl,hE6⟩;have H9:=ae (HZ.o.2.trans hE6);clear hdc hdl hE6 z0q7 z0f z0l x0q7 x0f x0l;go_wp2_with(fail)
 case' false=>
  generalize w4q7=W9 at *;have H9:=ae H4.o;clear x0q7 x0f x0l;go_wp2_with(fail)
 all_goals
  refine(Fq B m d 60 pkq7 W9 (H.o.2.2.2.dh (HX.o.2.1.trans H9.o).ext (HX.o.2.1.trans H9.o).size) ad).mono ?_;rintro r w10 ⟨A5q7,c5q7,rfl,hc5,hl5,hb5⟩;have hlen5:=picksLen pkq7 60;generalize ew pkq7 60=L at *;generalize hn5:L.length=n5q7 at *;have hE10:=H9.o.trans (belE hb5);have H10:=ae (And.intro (show cJ (EF cD) 1 w10 w10.heap.size A5q7 n5q7 L from hl5) (And.intro hE10 hn5));clear hc5 hl5 hb5 hn5;obtain⟨x0q7,x0f,x0l⟩:=(HX.o.2.2.1.aj hE10).two;clear hE10;go_wp2_with(fail);refine(suseful u L A5q7 n5q7 c5q7 w10 ⟨GA,gn,gc,MA,mn,mc,PA,pn,pc⟩ H1.o.1 (HX.o.1.on H10.o.2.1) H10.o.1 ad).mono ?_;rintro e w11 ⟨QA,qnq7,qc,rfl,hqn,hqc,hql,hE11⟩;have hqn60:qnq7<=60:=by have h1q7:=Ck (u:=u) L (dO u);have:=H10.o.2.2;omega
  have hEq7:=H10.o.2.1.trans hE11;have H11:=ae (And.intro (Sl.ints hql) (And.intro hEq7 hqn));clear hql hqn hE11 x0q7 x0f x0l;obtain⟨k,hkq7⟩:∃k:Nat,min (qnq7:Int) ST=(k:Int):=⟨(min (qnq7:Int) ST).toNat,ad⟩
  have hkq:k<=qnq7:=ad;have hkc:k<=qc:=ad;have hkS:(k:Int)<=ST:=ad;have htk:dC u (dO u) ((dC u (dO u) L).take k)=(dC u (dO u) L).take k:=xJ (wI L (dO u)) k;have hQl:((dC u (dO u) L).take k).length=k:=by have:=H11.o.2.2;rw[List.length_take];omega
  have hrq7:Calls Tryz.prog 13 #[.agg ((⟨GA,gn,gc,MA,mn,mc,PA,pn,pc⟩:UV).val u),.slice QA k qc] w11 (Ez w11 (fL u (dO u) ((dC u (dO u) L).take k)) ((dC u (dO u) L).take k).length):=by
   have h1q7:cJ (EF cD) 1 w11 w11.heap.size QA k ((dC u (dO u) L).take k):=Sl.ints (by rw[List.map_take];exact(cJ.ints H11.o.1 (P:=av w11) λb hbq7=>hbq7).take hkq);have h2q7:=srun u ((dC u (dO u) L).take k) QA k qc w11 ⟨GA,gn,gc,MA,mn,mc,PA,pn,pc⟩ H1.o.1 (HX.o.1.on H11.o.2.1) h1q7 ad
   rwa [htk] at h2q7
  rw[hQl] at hrq7;have hTs:aV u 200 (fL u (dO u) ((dC u (dO u) L).take k)):=(BU H1.o.1.ok _ 0 (dO u) (C2 H1.o.1.ok)).mono (by rw[hQl];omega);have hfa:=λhaq7=>HS.o.2.2.2 haq7 ((dC u (dO u) L).take k) (by rw[hQl];omega) htk;rw[hQl] at hfa;generalize fL u (dO u) ((dC u (dO u) L).take k)=T at *;have HR:=ae (And.intro hrq7 (And.intro hTs hfa));clear hrq7 hTs hfa hQl htk;obtain⟨x0q7,x0f,x0l⟩:=(HX.o.2.2.1.aj hEq7).two;clear hEq7;go_wp2_with(fail);refine HR.o.1.mono ?_;rintro e w12 ⟨⟨SC,cmq7,cdq7,TC,tm2,td2,HC,hm2,hd2⟩,rfl,hq12,hE12⟩;have H12:=ae (And.intro (hq12.ok λb hbq7=>hbq7.2) (H11.o.2.1.trans hE12));clear hq12 hE12 x0q7 x0f x0l;dsimp only[SV.val];go_upto_region 13 with(fail);generalize hYq7:World.alloc _ _=Y;have hEY:Ext w12 Y:=by rw[<-hYq7];exact(Fr.refl _ _).alloc _
  have hBY:an Y w12.heap.size 45 #[.slice SC cmq7 cdq7,.slice TC tm2 td2,.slice HC hm2 hd2,.int .i64 T.fault]:=by rw[<-hYq7];exact an.new _ _ _
  have hXY:=H12.o.2.trans hEY;have hdy:=mdead u T 200 Y ⟨GA,gn,gc,MA,mn,mc,PA,pn,pc⟩ ⟨SC,cmq7,cdq7,TC,tm2,td2,HC,hm2,hd2⟩ ⟨H1.o.1,HR.o.2.1,ad,HX.o.1.on hXY,H12.o.1.on hEY⟩;have hfa:=HR.o.2.2;generalize ni (da u T)=DTq7 at *;have HY:=ae (And.intro hdy (And.intro hXY hfa));obtain⟨y0q7,y0f,y0l⟩:=hBY.two;obtain⟨x0q7,x0f,x0l⟩:=(HX.o.2.2.1.aj hXY).two;clear hYq7 hEY hBY hXY hdy hfa HR;cases all
  case false=>
   go_wp2_with(fail);refine(awake12 H.o.1 Y (HX.o.2.2.2 Y HY.o.2.1)).mono ?_;rintro e w14 ⟨rfl,hE14⟩;go_wp2_with(fail);go_ret;exact⟨rfl,Fr.ext ((HX.o.2.1.trans HY.o.2.1).trans hE14)⟩
  case true=>
   go_wp2_with(fail);refine HY.o.1.mono ?_;rintro e w13 ⟨DBq7,dbq7,rfl,hdb,hdm,hE13⟩;have H13:=ae (HY.o.2.1.trans hE13);clear hdb hdm hE13 x0q7 x0f x0l y0q7 y0f y0l;by_cases hzq7:0<DTq7.length
   .have hb1:(0:Int)<(DTq7.length:Int):=ad
    first
    | (obtain⟨_,hle⟩:=HY.o.2.2 (by first|rfl|trivial) hzq7;have hnl:¬(k:Int)<(n3q7:Int):=(aC H3.o.2.2);have hnl2:¬k<n3q7:=ad;go_wp2_with(fail);refine(awake12 H.o.1 w13 (HX.o.2.2.2 w13 H13.o)).mono ?_;rintro e w14 ⟨rfl,hE14⟩;go_wp2_with(fail);go_ret;exact⟨rfl,Fr.ext ((HX.o.2.1.trans H13.o).trans hE14)⟩)
    | (exfalso;have hhq7:=(HY.o.2.2 (by first|rfl|trivial) hzq7).1;first|cases hhq7|exact hhq7.elim)
   .have hb1:¬(0:Int)<(DTq7.length:Int):=ad;go_wp2_with(fail);refine(awake12 H.o.1 w13 (HX.o.2.2.2 w13 H13.o)).mono ?_;rintro e w14 ⟨rfl,hE14⟩;go_wp2_with(fail);go_ret;exact⟨rfl,Fr.ext ((HX.o.2.1.trans H13.o).trans hE14)⟩
end
end Go.Proofs.YtajlmkkidmjgoaaGreatDoor

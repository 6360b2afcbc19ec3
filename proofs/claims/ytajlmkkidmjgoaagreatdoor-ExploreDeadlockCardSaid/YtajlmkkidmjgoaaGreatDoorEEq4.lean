/- The search of explore: LawXC. No condition of its own. -/
import Derived.Test.YtajlmkkidmjgoaaGreatDoorEEq3
import Derived.Test.YtajlmkkidmjgoaaGreatDoorQ27
import Derived.Test.YtajlmkkidmjgoaaGreatDoorQ34
namespace Go.Proofs.YtajlmkkidmjgoaaGreatDoor
open Go.RowKit
set_option maxRecDepth 1000000
set_option linter.unusedVariables false
section
theorem picksLen(l:List Int)(m:Nat):(ew l m).length<=m:=by unfold ew;rw[List.length_map,List.length_take];omega
theorem belE{a b:World}(h:Below a.heap.size a b):Ext a b:=⟨h.os,h.tape,h.output,h.size,λk hkq7 _=>h.block k hkq7⟩
set_option maxRecDepth 1000000 in
set_option maxHeartbeats 3200000 in
theorem exploreComplete_any(hAq7:AiC)(A B:Option Addr)(n c m d:Nat)(l pkq7:List Int)(st:Int)(w:World)(h:cJ (EF cD) 1 w w.heap.size A n l)(hp:cJ (EF cD) 1 w w.heap.size B m pkq7)(hc:n<=c)(ht:TabU w.heap.size w) :
  Calls Tryz.prog 4 #[.slice A n c,.slice B m d,.int .i64 st] w λe w'=>e=.returned (.bool true)/\Below w.heap.size w w':=by
 have H:=ae (And.intro hAq7 (And.intro h (And.intro ht hp)));clear hAq7 h ht hp;go_enter Tryz.func4,Tryz.ntmps4;go_wp2_with(fail);refine(unit_any A n c l w H.o.2.1 hc).mono ?_;rintro e w1q7 ⟨u,b0q7,b1q7,b2q7,b3q7,b4,b5q7,m0q7,m1q7,m2q7,m3q7,m4q7,m5q7,d0,d1,d2,d3,d4,d5,GA,gn,gc,MA,mn,mc,PA,pn,pc,rfl,hU,_,_,_,hrep,hE1⟩;have hu1:(⟨GA,gn,gc,MA,mn,mc,PA,pn,pc⟩:UV).Ok w1q7 u:=uvX hrep λb hbq7=>hbq7.2;have H1:=ae (And.intro hU (And.intro hu1 hE1));clear hU hu1 hE1 hrep;go_upto_region 2 with(fail);generalize hX:World.alloc _ _=X;have hEX:Ext w1q7 X:=by rw[<-hX];exact(((Fr.refl _ _).alloc _).alloc _).alloc _
 have hBX:an X (w1q7.heap.size+1) 30 #[.slice GA gn gc,.slice MA mn mc,.slice PA pn pc,.int .i64 u.main]:=by rw[<-hX];exact(an.fu _ _ _ (by simp)).alloc _
 have hEw:=H1.o.2.2.trans hEX;have HX:=ae (And.intro (H1.o.2.1.on hEX) (And.intro hEw hBX));clear hX hEX hBX hEw;go_wp2_with(fail);refine(within_any st 14 ad ad X).mono ?_;rintro e X1 ⟨rfl,rfl⟩;have hwr:=rV (x:=st) (n:=14) ad;generalize within st 14=ST at *;obtain⟨x0q7,x0f,x0l⟩:=HX.o.2.2.two;go_wp2_with(fail);have hs:=states_any u X ⟨GA,gn,gc,MA,mn,mc,PA,pn,pc⟩ ST 150 H1.o.1 H.o.1 HX.o.1 (tabX H.o.2.2.1 HX.o.2.1);have hrc:=(explore_ok u ST 150).2;have hfew:(oQ u ST 150).1.length<=150:=by
  have h1q7:=(explore_ok u ST 150).1.hW.2;have h2q7:o8 150=150:=by decide
  omega
 have hsm:=λk hkq7=>kn_small H1.o.1 (steps:=ST) (most:=150) (k:=k) hkq7;generalize oQ u ST 150=r at *;obtain⟨out,all⟩:=r;have HS:=ae (And.intro hs (show all=true->qR u (min (max ST 0) 200).toNat out from hrc));have HSM:=ae (show ∀k∈out,Small k.1 from hsm);clear hs hrc hsm;refine HS.o.1.mono ?_;rintro e w4q7 ⟨B4q7,m4',d4',rfl,hm,hd4,hl,hE4⟩;have hm:out.length=m4':=hm;have hmb:m4'<=150:=by rw[<-hm];exact hfew
 have H4:=ae (And.intro (show Sl w4q7 (av w4q7) B4q7 m4' (out.map λk=>FR k.1) from hl) (And.intro (HX.o.2.1.trans hE4) (And.intro hm (And.intro (HX.o.1.on hE4) (HX.o.2.2.aj hE4)))));clear hl hE4 hm hd4 x0q7 x0f x0l hfew;obtain⟨x0q7,x0f,x0l⟩:=H4.o.2.2.2.2.two;go_upto_region 4 with(fail);refine eB (λ_=>False) [(0,0),(1,3),(2,1),(3,1),(4,3)] ?_;refine ph ?_;refine pf ?_;refine aD rfl (λK hK=>?_);go_simp;refine(Fq B m d 40 pkq7 w4q7.drew (H.o.2.2.2.dh (H4.o.2.1.trans (Fr.refl _ w4q7).drew).ext (H4.o.2.1.trans (Fr.refl _ w4q7).drew).size) ad).mono ?_;rintro r w5q7 ⟨A5q7,c5q7,rfl,hc5,hl5,hb5⟩;have hlen5:=picksLen pkq7 40;generalize ew pkq7 40=L at *;generalize hn5:L.length=n5q7 at *;have hE5:=belE hb5;refine dA hK (hE5) ?_;clear hK K;have H5:=ae (And.intro (show cJ (EF cD) 1 w5q7 w5q7.heap.size A5q7 n5q7 L from hl5) (And.intro (Fr.aJ hE5) hn5));clear hc5 hl5 hb5 hn5 hE5;have hus:=suseful u L A5q7 n5q7 c5q7 w5q7 ⟨GA,gn,gc,MA,mn,mc,PA,pn,pc⟩ H1.o.1 (H4.o.2.2.2.1.on H5.o.2.1) H5.o.1 ad;refine aD rfl (λK hK=>?_);go_simp;refine hus.mono ?_;rintro e w6q7 ⟨QA,qnq7,qc,rfl,hqn,hqc,hql,hE6⟩;refine dA hK (hE6) ?_;clear hK K;clear hus;have h46:=H5.o.2.1.trans hE6;have hqn40:qnq7<=40:=by have h1q7:=Ck (u:=u) L (dO u);have:=H5.o.2.2;omega
 have H6:=ae (And.intro (Sl.ints hql) (And.intro h46 (And.intro (H4.o.2.2.2.1.on h46) (And.intro (H4.o.2.2.2.2.aj h46) hqn))));clear hql hqn h46 hE6;refine pf ?_;refine aB ?_;clear x0q7 x0f x0l;obtain⟨x0q7,x0f,x0l⟩:=H6.o.2.2.2.1.two;obtain⟨k,hkq7⟩:∃k:Nat,min (qnq7:Int) ST=(k:Int):=⟨(min (qnq7:Int) ST).toNat,ad⟩
 have hkq:k<=qnq7:=ad;have hkc:k<=qc:=ad;have htk:(dC u (dO u) ((dC u (dO u) L).take k))=(dC u (dO u) L).take k:=xJ (wI L (dO u)) k;have hst:∀V,Ext w6q7 V->Calls Tryz.prog 13 #[.agg ((⟨GA,gn,gc,MA,mn,mc,PA,pn,pc⟩:UV).val u),.slice QA k qc] V (Ez V (fL u (dO u) ((dC u (dO u) L).take k)) ((dC u (dO u) L).take k).length):=λV hV=>by
  have h1q7:cJ (EF cD) 1 w6q7 w6q7.heap.size QA k ((dC u (dO u) L).take k):=Sl.ints (by rw[List.map_take];exact(cJ.ints H6.o.1 (P:=av w6q7) λb hbq7=>hbq7).take hkq);have h2q7:=srun u ((dC u (dO u) L).take k) QA k qc V ⟨GA,gn,gc,MA,mn,mc,PA,pn,pc⟩ H1.o.1 (H6.o.2.2.1.on hV) (h1q7.dh hV.ext hV.size) ad
  rwa [htk] at h2q7
 have hrc:all=true->∃x∈out,x.1=fL u (dO u) ((dC u (dO u) L).take k):=λhaq7=>by
  obtain⟨x,hx,h1q7,_⟩:=HS.o.2 haq7 ((dC u (dO u) L).take k) (by rw[List.length_take];omega) htk;exact⟨x,hx,h1q7⟩
 have hTs:Small (fL u (dO u) ((dC u (dO u) L).take k)):=by
  have h1q7:=BU H1.o.1.ok ((dC u (dO u) L).take k) 0 (dO u) (C2 H1.o.1.ok);exact h1q7.small H1.o.1.ok (by rw[List.length_take];omega)
 generalize ((dC u (dO u) L).take k).length=NQ at *;generalize fL u (dO u) ((dC u (dO u) L).take k)=T at *;have HST:=ae hst;have HRC:=ae (And.intro hrc hTs);clear hst hrc hTs htk hwr;go_upto_region 5 with(fail);refine sU (λ_=>False) [12] (.held 0 (.free 1 (.free 2 (.free 3 (.free 4 (.free 5 (.free 6 (.pick [7,11] (λi=>bif i == 7 then .free 8 (.free 9 (.free 10 (.pick [11] (λ_=>.pick [12] (λ_=>.free 13 (.stop)))))) else .pick [7] (λ_=>.free 8 (.free 9 (.free 10 (.pick [12] (λ_=>.free 13 (.stop))))))))))))))) ?_;refine th ?_
 iterate 6 refine tf ?_
 refine lM (P:=?pO) (ops:=?F9) (Q:=?Gb) (R:=?Gc) (tails:=?Gh) (rest:=.pick [12] (λ_=>.free 13 (.stop))) (aa:=?FM)
  (C:=λ(gxq7:Nat) (Y:Value) WV=>Ext w6q7 WV/\an WV gxq7 45 #[.slice none 0 0,.slice none 0 0,.slice none 0 0,.int .i64 0]/\w6q7.heap.size<=gxq7/\∃q':SV,Y=.agg (q'.val T)/\q'.Is WV (λb=>w6q7.heap.size<=b/\b<WV.heap.size/\b≠gxq7) T) (λkey=>?Bx) ?Bm
 case Bx=>
  refine a5 ?_ ?_
  ·
   refine aG rfl (λK hK=>?_) rfl;go_simp;refine(HST.o w6q7.drew (Fr.refl _ w6q7).drew).mono ?_;rintro e w2q7 ⟨q',rfl,hq',hE2⟩;refine dA hK (hE2) ?_;clear hK K
   iterate 3 refine tf ?_
   refine aq ?_;refine dS ?_;generalize hZq7:World.alloc _ _=Z;have e2:Ext w2q7 Z:=by rw[<-hZq7];exact(Fr.refl _ _).alloc _
   have hs2:w6q7.heap.size<=w2q7.heap.size:=hE2.size;have hs3:=e2.size;have F:Ext w6q7 Z/\an Z w2q7.heap.size 45 #[.slice none 0 0,.slice none 0 0,.slice none 0 0,.int .i64 0]/\w6q7.heap.size<=w2q7.heap.size/\∃q2q7:SV,(Value.agg (q'.val T))=.agg (q2q7.val T)/\q2q7.Is Z (λb=>w6q7.heap.size<=b/\b<Z.heap.size/\b≠w2q7.heap.size) T:=
    ⟨(Fr.aJ hE2).trans e2,by rw[<-hZq7];exact an.new _ _ _,hs2,q',rfl,(hq'.al λb hbq7=>e2.block b hbq7.2 λh=>h).mono λb hbq7=>by
     have hd:w6q7.drew.heap.size=w6q7.heap.size:=rfl;omega⟩
   clear hZq7 e2 hs2 hs3 hq' hE2;revert F;generalize w2q7.heap.size=gxq7;generalize (Value.agg (q'.val T))=Y;intro F;exact key gxq7 Y _ F
  ·
   refine dS ?_;generalize hV2:World.drew (World.alloc _ _)=W1;have e1:Ext w6q7 W1:=by rw[<-hV2];exact((Fr.refl _ _).alloc _).drew
   have hB1:an W1 w6q7.heap.size 45 #[.slice none 0 0,.slice none 0 0,.slice none 0 0,.int .i64 0]:=by rw[<-hV2];exact an.new _ _ _
   have hs1':=hB1.lt;refine aq ?_;refine aG rfl (λK hK=>?_) rfl;go_simp;refine(HST.o W1 e1).mono ?_;rintro e w2q7 ⟨q',rfl,hq',hE2⟩;refine dA hK (hE2) ?_;clear hK K
   iterate 3 refine tf ?_
   have hs2:=hE2.size;have F:Ext w6q7 w2q7/\an w2q7 w6q7.heap.size 45 #[.slice none 0 0,.slice none 0 0,.slice none 0 0,.int .i64 0]/\w6q7.heap.size<=w6q7.heap.size/\∃q2q7:SV,(Value.agg (q'.val T))=.agg (q2q7.val T)/\q2q7.Is w2q7 (λb=>w6q7.heap.size<=b/\b<w2q7.heap.size/\b≠w6q7.heap.size) T:=
    ⟨e1.trans hE2,hB1.aj hE2,Nat.le_refl _,q',rfl,hq'.mono λb hbq7=>ad⟩
   clear hV2 e1 hB1 hs1' hs2 hq' hE2;revert F key;generalize (Value.agg (q'.val T))=Y;intro key F;exact key w6q7.heap.size Y _ F
 case Bm=>
  rintro gxq7 Y WV ⟨hE4,hBx,hgx,⟨SC,cmq7,cdq7,TC,tm2,td2,HC,hm2,hd2⟩,rfl,hq4⟩;dsimp only[SV.val];clear x0q7 x0f x0l;obtain⟨x0q7,x0f,x0l⟩:=hBx.two;refine aq ?_;refine bA rfl (λK hK=>?_) rfl;go_simp;refine dW hK ?_;clear hK K;refine tf ?_;refine cr ?_;generalize hZq7:World.setCell _ _ _=Z;obtain⟨hBZ,hEZ,hFZ⟩:=cO (w:=w6q7) [.slice SC cmq7 cdq7,.slice TC tm2 td2,.slice HC hm2 hd2,.int .i64 T.fault] (by rfl) hBx hE4 hgx hZq7;have hqZ:(⟨SC,cmq7,cdq7,TC,tm2,td2,HC,hm2,hd2⟩:SV).Ok Z T:=(hq4.al λb hbq7=>hFZ.block b hbq7.2.1 hbq7.2.2).ok λb hbq7=>by have:=hFZ.size;have:=hbq7.2.1;omega
  have h4Z:Ext w4q7 Z:=H6.o.2.1.trans hEZ;have HZ:=ae (And.intro hqZ (And.intro h4Z (And.intro hBZ (H4.o.1.on (Fr.ext h4Z)))));clear hZq7 hBZ hEZ hFZ hBx hE4 hgx hq4 hqZ h4Z x0q7 x0f x0l HST;have hm4:=H4.o.2.2.1;go_wp2_with(fail);go_loopw [15] (λivq7 wr=>∃i:Nat,ivq7=.int .i64 i/\i<=m4'/\Ext Z wr/\∀j x,j<i->out[j]?=some x->x.1≠T) (λivq7 _=>m4' - (intOf ivq7).toNat)
  case atStart=>exact⟨0,rfl,ad,Fr.refl _ _,λj x h=>absurd h ad⟩
  case round=>
   obtain⟨i,rfl,hiq7,hEr,hno⟩:=hrel;have HT:=ae (tabX H.o.2.2.1 ((H4.o.2.1.trans HZ.o.2.1).trans hEr));by_cases hlt:i<m4'
   .have hlt1:(i:Int)<(m4':Int):=ad;have hS:=HZ.o.2.2.2.on (Fr.ext hEr);obtain⟨b,o,x,q,rfl,hbq7,hx,hqq7,c0,c1,c2,c3⟩:=hS.know hlt;have hBq7:=HZ.o.2.2.1.aj hEr;have hsame:=rsame x.1 T q ⟨SC,cmq7,cdq7,TC,tm2,td2,HC,hm2,hd2⟩ wr.drew (hqq7.on (Fr.refl _ wr).drew) ((HZ.o.1.on hEr).on (Fr.refl _ wr).drew) (HSM.o x (List.mem_of_getElem? hx));obtain⟨x0q7,x0f,x0l⟩:=hBq7.two;have HK:=ae (And.intro hsame (And.intro hx (And.intro hEr hno)));clear hS hx hqq7 hBq7 hsame hEr hno;go_upto_region 9 with(fail);refine eB (λ_=>False) [(0,3),(1,3),(2,3),(3,0),(4,0),(5,1)] ?_
    iterate 3 refine pf ?_
    iterate 2 refine ph ?_
    refine aD rfl (λK hK=>?_);go_simp;refine HK.o.1.mono ?_;rintro e w5q7 ⟨bb,rfl,hbb,hE5⟩;refine dA hK (hE5) ?_;clear hK K;refine aB ?_;have H5':=ae (And.intro (HK.o.2.2.1.trans (Fr.aJ hE5)) hbb);have HT5:=ae (tabX HT.o (Fr.aJ hE5));clear hE5 hbb c0 c1 c2 c3 x0q7 x0f x0l
    cases bb with
    | true=>
     go_wp2_with(fail);refine(awake12 H.o.1 w5q7 HT5.o).mono ?_;rintro e w8q7 ⟨rfl,hE8⟩;go_wp2_with(fail);go_ret
     exact⟨rfl,Fr.ext (((H4.o.2.1.trans HZ.o.2.1).trans H5'.o.1).trans hE8)⟩
    | false=>
     go_wp2_with(fail);go_roundw
     case rel=>
      refine⟨i+1,by go_num,ad,H5'.o.1,λj y hjq7 hyq7=>?_⟩;by_cases hji:j=i
      .subst hji;rw[HK.o.2.1] at hyq7;injection hyq7 with hyq7;subst hyq7;exact λhe=>by have:=H5'.o.2;first|exact absurd (this.2 he) (by decide)|(simp[he] at this)
      .exact HK.o.2.2.2 j y ad hyq7
     case measure=>simp[intOf];omega
   .obtain rfl:i=m4':=ad;obtain rfl:all=false:=by
     cases all with
     | false=>rfl
     | true=>
      obtain⟨x,hx,he⟩:=HRC.o.1 (by first|rfl|trivial);obtain⟨j,hjq7⟩:=List.getElem?_of_mem hx;exact absurd he (hno j x (by have:=(List.getElem?_eq_some_iff.1 hjq7).1;omega) hjq7)
    have HK:=ae hEr;clear hEr hno;go_wp2_with(fail);refine(awake12 H.o.1 wr HT.o).mono ?_;rintro e w8q7 ⟨rfl,hE8⟩;go_wp2_with(fail);go_ret;exact⟨rfl,Fr.ext (((H4.o.2.1.trans HZ.o.2.1).trans HK.o).trans hE8)⟩
end
end Go.Proofs.YtajlmkkidmjgoaaGreatDoor

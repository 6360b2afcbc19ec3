/- Schedules, the program's side: Run and Useful. Conditions: a well-formed unit. -/
import Derived.Test.YtkhnkojkplbioaaGreatESchA
namespace Go.Proofs.YtkhnkojkplbioaaGreat
open Go.RowKit
set_option maxRecDepth 1000000
set_option linter.unusedVariables false
def IntsRes(w:World)(l:List Int)(e:Ending)(w':World):Prop:=∃A n c,e=.returned (.slice A n c)/\l.length=n/\n<=c/\Sl w' (av w') A n (l.map D.i)/\Ext w w'
set_option maxRecDepth 1000000 in
set_option maxHeartbeats 1600000 in
theorem srun(u:ay)(l:List Int)(A:Option Addr)(n c:Nat)(w:World)(p:UV)(hU:tV u)(hu:p.Ok w u)(hl:cp (EF cP) 1 w w.heap.size A n l)(hn:n<=90000) :
  Calls Tryz.prog 36 #[.agg (p.val u),.slice A n c] w (zC w (gE u (dG u) l) (iU u (dG u) l).length):=by
 obtain⟨GA,gn,gc,MA,mn,mc,PA,pn,pc⟩:=p;have HVq7:=ae (And.intro hu hl);have HUq7:=ae hU;clear hU hu hl;dsimp only[UV.val];go_enter Tryz.func36,Tryz.ntmps36;go_upto_region 1 with(fail);generalize hWq7:World.alloc _ _=W;have hEq7:Ext w W:=by rw[<-hWq7];exact((Fr.refl _ _).alloc _).alloc _
 have hBq7:aq W w.heap.size 30 #[.slice GA gn gc,.slice MA mn mc,.slice PA pn pc,.int .i64 u.main]:=by rw[<-hWq7];exact(aq.new _ _ _).alloc _
 have hRq7:aq W (w.heap.size+1) 40 #[.slice none 0 0,.slice none 0 0,.slice none 0 0,.int .i64 0]:=by rw[<-hWq7];exact aq.gC _ _ _ (by simp)
 have HWq7:=ae (And.intro hEq7 (And.intro hRq7 (And.intro (HVq7.o.1.on hEq7) (HVq7.o.2.c8 (Fr.ext hEq7) hEq7.size))));have hWs:=hEq7.size;obtain⟨a0,a0f,a0l⟩:=hBq7.two;clear hWq7 hEq7 hBq7 hRq7 HVq7;refine eC (λ_=>False) [(0,0),(1,0),(2,1),(3,3),(4,2),(5,3)] ?_
 iterate 2 refine ph ?_
 refine aG rfl (λK hK=>?_);go_simp;refine(Jh u W.drew ⟨GA,gn,gc,MA,mn,mc,PA,pn,pc⟩ HUq7.o (HWq7.o.2.2.1.on (Fr.refl _ W).drew)).mono ?_;rintro e w1q7 ⟨⟨SA,snq7,scq7,TA,tn,tc,HA,hn',hc⟩,rfl,hq0,hE1⟩;refine dq hK (hE1) ?_;clear hK K;refine pf ?_;refine ax rfl (λK hK=>?_);go_simp;generalize hV:World.alloc _ _=V;have e1:Ext W V:=by rw[<-hV];exact(Fr.aF hE1).alloc _
 have e2:Ext w1q7 V:=by rw[<-hV];exact(Fr.refl _ _).alloc _
 have hBV:aq V w1q7.heap.size 139 (wkC ⟨GA,gn,gc,MA,mn,mc,PA,pn,pc⟩ u ⟨SA,snq7,scq7,TA,tn,tc,HA,hn',hc⟩ (dG u) none 0 0):=by rw[<-hV];exact aq.new _ _ _
 have s1:W.heap.size<=w1q7.heap.size:=hE1.size;have h0:WkAt W V ⟨GA,gn,gc,MA,mn,mc,PA,pn,pc⟩ u w1q7.heap.size ⟨SA,snq7,scq7,TA,tn,tc,HA,hn',hc⟩ none 0 0 [] (dG u) []:=
  ⟨e1,s1,hBV,⟨⟨rfl,.inl ⟨rfl,rfl⟩⟩,rfl⟩,rfl,λb hbq7=>(List.not_mem_nil hbq7).elim,(hq0.al λb hbq7=>e2.block b (hbq7.resolve_left λh=>h).2 λh=>h).mono λb hbq7=>by
   have hd:W.drew.heap.size=W.heap.size:=rfl;have h1q7:=hBV.lt;have:=hbq7.resolve_left λh=>h;exact⟨ad,ad,ad,List.not_mem_nil⟩⟩
 refine dP hK ?_;clear hK K;refine pf ?_;refine aC ?_;have H0q7:=ae h0;have hgl:=hBV.lt;clear hV e1 e2 hBV h0 hq0 hE1 a0 a0f a0l;generalize hgq7:w1q7.heap.size=g at *;clear hgq7;go_wp2_with(fail);go_loopw [16] (λivq7 wr=>∃(k:Nat) (q:SV) (D:Option Addr) (dnq7 dcq7:Nat) (F:List Nat),ivq7=.int .i64 k/\k<=n/\WkAt W wr ⟨GA,gn,gc,MA,mn,mc,PA,pn,pc⟩ u g q D dnq7 dcq7 F (gE u (dG u) (l.take k)) (iU u (dG u) (l.take k))) (λivq7 _=>n - (intOf ivq7).toNat)
 case atStart=>exact⟨0,_,_,_,_,_,rfl,ad,H0q7.o⟩
 case round=>
  obtain⟨k,q,D,dnq7,dcq7,F,rfl,hkq7,hAq7⟩:=hrel;have hok:=w9 HUq7.o.ok (l.take k) 0 (dG u) (pg HUq7.o.ok);have hus:=Iw (u:=u) (l.take k) (dG u);rw[List.length_take] at hok hus;have hdn:dnq7<=100000:=by have:=hAq7.len;omega
  have hsn:∀t,l[k]?=some t->gE u (dG u) (l.take (k+1))=(aV u (gE u (dG u) (l.take k)) t).1/\iU u (dG u) (l.take (k+1))=iU u (dG u) (l.take k)++if (aV u (gE u (dG u) (l.take k)) t).2 then [t] else []:=λt ht=>by
   rw[a1 ht,q4,qW];exact⟨rfl,by simp[iU]⟩
  have hlast:k=n->l.take k=l:=λh=>List.take_of_length_le (aD HWq7.o.2.2.2.1);have HRq7:=ae (And.intro hAq7 (And.intro hok (And.intro hsn hlast)));clear hok hus hsn hlast;by_cases hlt:k<n
  .have hlI:=HWq7.o.2.2.2.c8 (Fr.ext hAq7.ext) hAq7.ext.size;obtain⟨b,o,t,hAe,hbq7,hx,hc⟩:=hlI.int hlt;subst hAe;have HXq7:=ae hx;clear hlI hx hAq7;go_wp2_with(fail);refine(pick_any u (0+min k l.length) t W _ ⟨GA,gn,gc,MA,mn,mc,PA,pn,pc⟩ g q D dnq7 dcq7 F _ _ HUq7.o HWq7.o.2.2.1 HRq7.o.2.1 ad ad HRq7.o.1).mono ?_;rintro e w4q7 ⟨rfl,q2q7,D2q7,dn2,dc2,F2,hA2⟩;have HA2:=ae hA2;clear hA2;go_wp2_with(fail);go_roundw
   case rel=>
    have hs:=HRq7.o.2.2.1 t HXq7.o;refine⟨k+1,q2q7,D2q7,dn2,dc2,F2,by go_num,ad,?_⟩;rw[hs.1,hs.2];exact HA2.o
   case measure=>simp[intOf];omega
  .have hkn:k=n:=ad;have hAq7:=HRq7.o.1;rw[HRq7.o.2.2.2 hkn] at hAq7;obtain⟨SB,sm,sdq7,TB,tmq7,tdq7,HBq7,hm,hd⟩:=q;have HA:=ae hAq7;have hdn2:=hAq7.len;obtain⟨g0q7,g0f,g0l⟩:=hAq7.blk.two;clear hAq7 hkn;have hRr:=HWq7.o.2.1.aj HA.o.ext;have hRl:=hRr.lt;have hRW:=HWq7.o.2.1.lt;have hgr:g≠w.heap.size+1:=by have:=HA.o.lo;omega
   have HRR:=ae hRr;obtain⟨r0q7,r0f,r0l⟩:=hRr.two;clear hRr;go_upto_region 7 with(fail);refine eC (λb=>b=w.heap.size+1) [(0,3),(1,3),(2,3),(3,0),(4,3),(5,3),(6,3),(7,0),(8,3),(9,1),(10,3)] ?_
   iterate 3 refine pf ?_
   refine oQ ?_
   iterate 3 refine pf ?_
   refine oQ ?_;refine pf ?_;refine aG rfl (λK hK=>?_);go_simp;generalize hZq7:World.setCell _ _ _=Z;obtain⟨hBZ,hFZ⟩:=km 0 [.slice SB sm sdq7,.slice TB tmq7 tdq7,.slice HBq7 hm hd,.int .i64 (gE u (dG u) l).fault] HRR.o hZq7;refine dq hK (⟨hFZ.os,hFZ.tape,hFZ.output,hFZ.size,hFZ.block⟩) ?_;clear hK K;refine pf ?_;refine aC ?_;have HZq7:=ae hFZ.drew;clear hZq7 hFZ r0q7 r0f r0l g0q7 g0f g0l;obtain⟨r0q7,r0f,r0l⟩:=hBZ.two;go_wp2_with(fail);refine bodyPost_ret (v:=.tuple #[.agg #[.slice SB sm sdq7,.slice TB tmq7 tdq7,.slice HBq7 hm hd,.int .i64 (gE u (dG u) l).fault],.int .i64 (dnq7:Int)]) (by simp[results,Tryz.results36,go_sem,r0q7,je]) rfl ?_;rw[<-hdn2];have hzs:=HZq7.o.size;have hxs:=HA.o.ext.size;refine⟨⟨SB,sm,sdq7,TB,tmq7,tdq7,HBq7,hm,hd⟩,rfl,(HA.o.Ho.al λb hbq7=>HZq7.o.block b hbq7.2.1 ad).mono λb hbq7=>ad,Fr.low (M:=λb=>b=w.heap.size+1) (Fr.trans ((HWq7.o.1.trans HA.o.ext).mono λ_ h=>h.elim) HZq7.o) λb hbq7=>ad⟩
set_option maxRecDepth 1000000 in
set_option maxHeartbeats 1600000 in
theorem suseful(u:ay)(l:List Int)(A:Option Addr)(n c:Nat)(w:World)(p:UV)(hU:tV u)(hu:p.Ok w u)(hl:cp (EF cP) 1 w w.heap.size A n l)(hn:n<=90000) :
  Calls Tryz.prog 39 #[.agg (p.val u),.slice A n c] w (IntsRes w (iU u (dG u) l)):=by
 obtain⟨GA,gn,gc,MA,mn,mc,PA,pn,pc⟩:=p;have HVq7:=ae (And.intro hu hl);have HUq7:=ae hU;clear hU hu hl;dsimp only[UV.val];go_enter Tryz.func39,Tryz.ntmps39;go_upto_region 1 with(fail);generalize hWq7:World.alloc _ _=W;have hEq7:Ext w W:=by rw[<-hWq7];exact(Fr.refl _ _).alloc _
 have hBq7:aq W w.heap.size 30 #[.slice GA gn gc,.slice MA mn mc,.slice PA pn pc,.int .i64 u.main]:=by rw[<-hWq7];exact aq.new _ _ _
 have hRq7:True:=trivial;have HWq7:=ae (And.intro hEq7 (And.intro hRq7 (And.intro (HVq7.o.1.on hEq7) (HVq7.o.2.c8 (Fr.ext hEq7) hEq7.size))));have hWs:=hEq7.size;obtain⟨a0,a0f,a0l⟩:=hBq7.two;clear hWq7 hEq7 hBq7 hRq7 HVq7;refine eC (λ_=>False) [(0,0),(1,0),(2,1),(3,3),(4,2),(5,3)] ?_
 iterate 2 refine ph ?_
 refine aG rfl (λK hK=>?_);go_simp;refine(Jh u W.drew ⟨GA,gn,gc,MA,mn,mc,PA,pn,pc⟩ HUq7.o (HWq7.o.2.2.1.on (Fr.refl _ W).drew)).mono ?_;rintro e w1q7 ⟨⟨SA,snq7,scq7,TA,tn,tc,HA,hn',hc⟩,rfl,hq0,hE1⟩;refine dq hK (hE1) ?_;clear hK K;refine pf ?_;refine ax rfl (λK hK=>?_);go_simp;generalize hV:World.alloc _ _=V;have e1:Ext W V:=by rw[<-hV];exact(Fr.aF hE1).alloc _
 have e2:Ext w1q7 V:=by rw[<-hV];exact(Fr.refl _ _).alloc _
 have hBV:aq V w1q7.heap.size 139 (wkC ⟨GA,gn,gc,MA,mn,mc,PA,pn,pc⟩ u ⟨SA,snq7,scq7,TA,tn,tc,HA,hn',hc⟩ (dG u) none 0 0):=by rw[<-hV];exact aq.new _ _ _
 have s1:W.heap.size<=w1q7.heap.size:=hE1.size;have h0:WkAt W V ⟨GA,gn,gc,MA,mn,mc,PA,pn,pc⟩ u w1q7.heap.size ⟨SA,snq7,scq7,TA,tn,tc,HA,hn',hc⟩ none 0 0 [] (dG u) []:=
  ⟨e1,s1,hBV,⟨⟨rfl,.inl ⟨rfl,rfl⟩⟩,rfl⟩,rfl,λb hbq7=>(List.not_mem_nil hbq7).elim,(hq0.al λb hbq7=>e2.block b (hbq7.resolve_left λh=>h).2 λh=>h).mono λb hbq7=>by
   have hd:W.drew.heap.size=W.heap.size:=rfl;have h1q7:=hBV.lt;have:=hbq7.resolve_left λh=>h;exact⟨ad,ad,ad,List.not_mem_nil⟩⟩
 refine dP hK ?_;clear hK K;refine pf ?_;refine aC ?_;have H0q7:=ae h0;have hgl:=hBV.lt;clear hV e1 e2 hBV h0 hq0 hE1 a0 a0f a0l;generalize hgq7:w1q7.heap.size=g at *;clear hgq7;go_wp2_with(fail);go_loopw [15] (λivq7 wr=>∃(k:Nat) (q:SV) (D:Option Addr) (dnq7 dcq7:Nat) (F:List Nat),ivq7=.int .i64 k/\k<=n/\WkAt W wr ⟨GA,gn,gc,MA,mn,mc,PA,pn,pc⟩ u g q D dnq7 dcq7 F (gE u (dG u) (l.take k)) (iU u (dG u) (l.take k))) (λivq7 _=>n - (intOf ivq7).toNat)
 case atStart=>exact⟨0,_,_,_,_,_,rfl,ad,H0q7.o⟩
 case round=>
  obtain⟨k,q,D,dnq7,dcq7,F,rfl,hkq7,hAq7⟩:=hrel;have hok:=w9 HUq7.o.ok (l.take k) 0 (dG u) (pg HUq7.o.ok);have hus:=Iw (u:=u) (l.take k) (dG u);rw[List.length_take] at hok hus;have hdn:dnq7<=100000:=by have:=hAq7.len;omega
  have hsn:∀t,l[k]?=some t->gE u (dG u) (l.take (k+1))=(aV u (gE u (dG u) (l.take k)) t).1/\iU u (dG u) (l.take (k+1))=iU u (dG u) (l.take k)++if (aV u (gE u (dG u) (l.take k)) t).2 then [t] else []:=λt ht=>by
   rw[a1 ht,q4,qW];exact⟨rfl,by simp[iU]⟩
  have hlast:k=n->l.take k=l:=λh=>List.take_of_length_le (aD HWq7.o.2.2.2.1);have HRq7:=ae (And.intro hAq7 (And.intro hok (And.intro hsn hlast)));clear hok hus hsn hlast;by_cases hlt:k<n
  .have hlI:=HWq7.o.2.2.2.c8 (Fr.ext hAq7.ext) hAq7.ext.size;obtain⟨b,o,t,hAe,hbq7,hx,hc⟩:=hlI.int hlt;subst hAe;have HXq7:=ae hx;clear hlI hx hAq7;go_wp2_with(fail);refine(pick_any u (0+min k l.length) t W _ ⟨GA,gn,gc,MA,mn,mc,PA,pn,pc⟩ g q D dnq7 dcq7 F _ _ HUq7.o HWq7.o.2.2.1 HRq7.o.2.1 ad ad HRq7.o.1).mono ?_;rintro e w4q7 ⟨rfl,q2q7,D2q7,dn2,dc2,F2,hA2⟩;have HA2:=ae hA2;clear hA2;go_wp2_with(fail);go_roundw
   case rel=>
    have hs:=HRq7.o.2.2.1 t HXq7.o;refine⟨k+1,q2q7,D2q7,dn2,dc2,F2,by go_num,ad,?_⟩;rw[hs.1,hs.2];exact HA2.o
   case measure=>simp[intOf];omega
  .have hkn:k=n:=ad;have hAq7:=HRq7.o.1;rw[HRq7.o.2.2.2 hkn] at hAq7;obtain⟨SB,sm,sdq7,TB,tmq7,tdq7,HBq7,hm,hd⟩:=q;have HA:=ae hAq7;have hdn2:=hAq7.len;obtain⟨g0q7,g0f,g0l⟩:=hAq7.blk.two;clear hAq7 hkn;go_wp2_with(fail);go_ret;exact⟨D,dnq7,dcq7,rfl,hdn2,HA.o.row.cap,HA.o.row.sl (cx _) (by rw[List.length_map];exact hdn2) λb hbq7=>HA.o.row.lt b hbq7,HWq7.o.1.trans HA.o.ext⟩
end Go.Proofs.YtkhnkojkplbioaaGreat

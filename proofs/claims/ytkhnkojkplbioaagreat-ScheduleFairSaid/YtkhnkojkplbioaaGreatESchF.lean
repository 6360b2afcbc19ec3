/- Schedules, the program's side: Fair. Conditions: a well-formed unit, 1000 rounds at most. -/
import Derived.Test.YtkhnkojkplbioaaGreatESchB
namespace Go.Proofs.YtkhnkojkplbioaaGreat
open Go.RowKit
set_option maxRecDepth 1000000
set_option linter.unusedVariables false
def FairRes(w:World)(s:ai)(l:List Int)(e:Ending)(w':World):Prop:=∃(q:SV) (A:Option Addr) (n c:Nat),e=.returned (.tuple #[.agg (q.val s),.slice A n c])/\q.Ok w' s/\l.length=n/\n<=c/\Sl w' (av w') A n (l.map D.i)/\Ext w w'
theorem roundL_len(s:ai):(Ka s).length=s.threads.length:=by simp[Ka]
theorem roundL_at(s:ai){j:Nat}(h:j<s.threads.length):(Ka s)[j]?=some (j:Int):=by
 unfold Ka;rw[List.getElem?_map,List.getElem?_range h];rfl
theorem fair_ok{u:ay}(hU:c5 u):∀k,aX u (32*k) (fairS u k (dG u)).1/\(fairS u k (dG u)).2.length<=32*k
 | 0=>⟨pg hU,Nat.le_refl _⟩
 | k+1=>by
  obtain⟨h1q7,h2q7⟩:=fair_ok hU k;have hl:=h1q7.xl.2;rw[<-roundL_len] at hl;have:=Iw (u:=u) (Ka (fairS u k (dG u)).1) (fairS u k (dG u)).1;rw[fair_snoc];exact⟨(w9 hU _ _ _ h1q7).mono ad,by rw[List.length_append];omega⟩
theorem round_step{u:ay}{S:ai}{j:Nat}(h:j<S.threads.length)(L:List Int):gE u S ((Ka S).take (j+1))=(aV u (gE u S ((Ka S).take j)) j).1/\
  L++iU u S ((Ka S).take (j+1))=(L++iU u S ((Ka S).take j))++if (aV u (gE u S ((Ka S).take j)) j).2 then [(j:Int)] else []:=by
 rw[a1 (roundL_at S h),q4,qW,List.append_assoc];exact⟨rfl,by simp[iU]⟩
theorem round_ok{u:ay}(hU:c5 u){S:ai}{L:List Int}{N:Nat}(h:aX u N S)(hLq7:L.length<=N)(j:Nat)(hjq7:j<=32):aX u (N+32) (gE u S ((Ka S).take j))/\(L++iU u S ((Ka S).take j)).length<=N+32:=by
 have h1q7:((Ka S).take j).length<=32:=by rw[List.length_take];omega
 have h2q7:=Iw (u:=u) ((Ka S).take j) S;exact⟨(w9 hU _ _ _ h).mono ad,by rw[List.length_append];omega⟩
set_option maxRecDepth 1000000 in
set_option maxHeartbeats 1600000 in
theorem sfair(u:ay)(r:Int)(K:Nat)(w:World)(p:UV)(hU:tV u)(hu:p.Ok w u)(hrq7:r<=50)(hK:r.toNat=K) :
  Calls Tryz.prog 41 #[.agg (p.val u),.int .i64 r] w (FairRes w (fairS u K (dG u)).1 (fairS u K (dG u)).2):=by
 obtain⟨GA,gn,gc,MA,mn,mc,PA,pn,pc⟩:=p;have HVq7:=ae hu;have HUq7:=ae hU;have hK5:K<=50:=ad;have hmm:min (max r 0) 1000=(K:Int):=ad;have HMM:=ae hmm;clear hU hu hK hmm;dsimp only[UV.val];go_enter Tryz.func41,Tryz.ntmps41;go_upto_region 1 with(fail);generalize hWq7:World.alloc _ _=W;have hEq7:Ext w W:=by rw[<-hWq7];exact((Fr.refl _ _).alloc _).alloc _
 have hBq7:aq W w.heap.size 30 #[.slice GA gn gc,.slice MA mn mc,.slice PA pn pc,.int .i64 u.main]:=by rw[<-hWq7];exact(aq.new _ _ _).alloc _
 have hRq7:aq W (w.heap.size+1) 40 #[.slice none 0 0,.slice none 0 0,.slice none 0 0,.int .i64 0]:=by rw[<-hWq7];exact aq.gC _ _ _ (by simp)
 have HWq7:=ae (And.intro hEq7 (And.intro hRq7 (HVq7.o.on hEq7)));have hWs:=hEq7.size;obtain⟨a0,a0f,a0l⟩:=hBq7.two;clear hWq7 hEq7 hBq7 hRq7 HVq7;refine eC (λ_=>False) [(0,0),(1,0),(2,1),(3,3),(4,2),(5,3)] ?_
 iterate 2 refine ph ?_
 refine aG rfl (λK hK=>?_);go_simp;refine(Jh u W.drew ⟨GA,gn,gc,MA,mn,mc,PA,pn,pc⟩ HUq7.o (HWq7.o.2.2.on (Fr.refl _ W).drew)).mono ?_;rintro e w1q7 ⟨⟨SA,snq7,scq7,TA,tn,tc,HA,hn',hc⟩,rfl,hq0,hE1⟩;refine dq hK (hE1) ?_;clear hK K;refine pf ?_;refine ax rfl (λK hK=>?_);go_simp;generalize hV:World.alloc _ _=V;have e1:Ext W V:=by rw[<-hV];exact(Fr.aF hE1).alloc _
 have e2:Ext w1q7 V:=by rw[<-hV];exact(Fr.refl _ _).alloc _
 have hBV:aq V w1q7.heap.size 139 (wkC ⟨GA,gn,gc,MA,mn,mc,PA,pn,pc⟩ u ⟨SA,snq7,scq7,TA,tn,tc,HA,hn',hc⟩ (dG u) none 0 0):=by rw[<-hV];exact aq.new _ _ _
 have s1:W.heap.size<=w1q7.heap.size:=hE1.size;have h0:WkAt W V ⟨GA,gn,gc,MA,mn,mc,PA,pn,pc⟩ u w1q7.heap.size ⟨SA,snq7,scq7,TA,tn,tc,HA,hn',hc⟩ none 0 0 [] (dG u) []:=
  ⟨e1,s1,hBV,⟨⟨rfl,.inl ⟨rfl,rfl⟩⟩,rfl⟩,rfl,λb hbq7=>(List.not_mem_nil hbq7).elim,(hq0.al λb hbq7=>e2.block b (hbq7.resolve_left λh=>h).2 λh=>h).mono λb hbq7=>by
   have hd:W.drew.heap.size=W.heap.size:=rfl;have h1q7:=hBV.lt;have:=hbq7.resolve_left λh=>h;exact⟨ad,ad,ad,List.not_mem_nil⟩⟩
 refine dP hK ?_;clear hK K;refine pf ?_;refine aC ?_;have H0q7:=ae h0;have hgl:=hBV.lt;clear hV e1 e2 hBV h0 hq0 hE1 a0 a0f a0l;generalize hgq7:w1q7.heap.size=g at *;clear hgq7;go_upto_region 2 with(fail);go_wp2_with(fail)
 try rw[HMM.o]
 go_loopw [16] (λivq7 wr=>∃(k:Nat) (q:SV) (D:Option Addr) (dnq7 dcq7:Nat) (F:List Nat),ivq7=.int .i64 k/\k<=K/\WkAt W wr ⟨GA,gn,gc,MA,mn,mc,PA,pn,pc⟩ u g q D dnq7 dcq7 F (fairS u k (dG u)).1 (fairS u k (dG u)).2) (λivq7 _=>K - (intOf ivq7).toNat)
 case atStart=>exact⟨0,_,_,_,_,_,rfl,ad,H0q7.o⟩
 case round=>
  obtain⟨k,⟨SB,sm,sdq7,TB,tmq7,tdq7,HBq7,hm,hd⟩,D,dnq7,dcq7,F,rfl,hkq7,hAq7⟩:=hrel;obtain⟨g0q7,g0f,g0l⟩:=hAq7.blk.two;by_cases hlt:k<K
  .have hfo:=fair_ok HUq7.o.ok k;have hsn:=fair_snoc (u:=u) k (dG u);generalize fairS u k (dG u)=R at *;obtain⟨S,L⟩:=R;have hthr:=hfo.1.xl;obtain rfl:S.threads.length=hm:=by have:=hAq7.Ho.at_.h.1;simpa using this
   have HRq7:=ae (And.intro hAq7 (And.intro hfo hsn));clear hAq7 hfo hsn;go_wp2_with(fail);clear g0q7 g0f g0l;go_loopw [24] (λjvq7 wr2=>∃(j:Nat) (q:SV) (D:Option Addr) (dnq7 dcq7:Nat) (F:List Nat),jvq7=.int .i64 j/\j<=S.threads.length/\WkAt W wr2 ⟨GA,gn,gc,MA,mn,mc,PA,pn,pc⟩ u g q D dnq7 dcq7 F (gE u S ((Ka S).take j)) (L++iU u S ((Ka S).take j))) (λjvq7 _=>S.threads.length - (intOf jvq7).toNat)
   case atStart=>exact⟨0,_,_,_,_,_,rfl,ad,by rw[List.take_zero];show WkAt _ _ _ _ _ _ _ _ _ _ S (L++[]);rw[List.append_nil];exact HRq7.o.1⟩
   case round=>
    obtain⟨j,q2q7,D2q7,en,ec,F2,rfl,hjq7,hA2⟩:=hrel;have HA2:=ae hA2;clear hA2;by_cases hjl:j<S.threads.length
    .have hro:=round_ok HUq7.o.ok HRq7.o.2.1.1 HRq7.o.2.1.2 j ad;have hen:en<=1000000:=by have:=HA2.o.len;omega
     have HRO:=ae hro.1;clear hro;go_wp2_with(fail);refine(pick_any u (32*k+32) j W _ ⟨GA,gn,gc,MA,mn,mc,PA,pn,pc⟩ g q2q7 D2q7 en ec F2 _ _ HUq7.o HWq7.o.2.2 HRO.o ad hen HA2.o).mono ?_;rintro e w4q7 ⟨rfl,q3q7,D3q7,n3,c3,F3q7,hA3⟩;have HA3:=ae hA3;clear hA3;go_wp2_with(fail);go_roundw
     case rel=>
      have hs:=round_step (u:=u) hjl L;refine⟨j+1,q3q7,D3q7,n3,c3,F3q7,by go_num,ad,?_⟩;rw[hs.1,hs.2];exact HA3.o
     case measure=>simp[intOf];omega
    .go_wp2_with(fail);go_roundw
     case rel=>
      have hjT:(Ka S).take j=Ka S:=List.take_of_length_le (by rw[roundL_len];omega);have hA4:=HA2.o;rw[hjT] at hA4;refine⟨k+1,q2q7,D2q7,en,ec,F2,by go_num,ad,?_⟩;rw[HRq7.o.2.2];exact hA4
     case measure=>simp[intOf];omega
  .obtain rfl:k=K:=ad;have HA:=ae hAq7;have hdn2:=hAq7.len;generalize fairS u k (dG u)=R at *;obtain⟨S,L⟩:=R;have hRr:=HWq7.o.2.1.aj HA.o.ext;have hRl:=hRr.lt;have hRW:=HWq7.o.2.1.lt;have hgr:g≠w.heap.size+1:=by have:=HA.o.lo;omega
   have HRR:=ae hRr;obtain⟨r0q7,r0f,r0l⟩:=hRr.two;clear hAq7 hRr;go_upto_region 10 with(fail);refine eC (λb=>b=w.heap.size+1) [(0,3),(1,3),(2,3),(3,0),(4,3),(5,3),(6,3),(7,0),(8,1),(9,3)] ?_
   iterate 3 refine pf ?_
   refine oQ ?_
   iterate 3 refine pf ?_
   refine oQ ?_;refine aG rfl (λK hK=>?_);go_simp;generalize hZq7:World.setCell _ _ _=Z;obtain⟨hBZ,hFZ⟩:=km 0 [.slice SB sm sdq7,.slice TB tmq7 tdq7,.slice HBq7 hm hd,.int .i64 S.fault] HRR.o hZq7;refine dq hK (⟨hFZ.os,hFZ.tape,hFZ.output,hFZ.size,hFZ.block⟩) ?_;clear hK K;refine pf ?_;refine aC ?_;have HZq7:=ae hFZ.drew;clear hZq7 hFZ r0q7 r0f r0l g0q7 g0f g0l;obtain⟨r0q7,r0f,r0l⟩:=hBZ.two;go_wp2_with(fail);refine bodyPost_ret (v:=.tuple #[.agg #[.slice SB sm sdq7,.slice TB tmq7 tdq7,.slice HBq7 hm hd,.int .i64 S.fault],.slice D dnq7 dcq7]) (by simp[results,Tryz.results41,go_sem,r0q7,je]) rfl ?_;have hxs:=HA.o.ext.size;have hzs:=HZq7.o.size;refine⟨⟨SB,sm,sdq7,TB,tmq7,tdq7,HBq7,hm,hd⟩,D,dnq7,dcq7,rfl,(HA.o.Ho.al λb hbq7=>HZq7.o.block b hbq7.2.1 ad).ok λb hbq7=>Nat.lt_of_lt_of_le hbq7.2.1 hzs,hdn2,HA.o.row.cap,(HA.o.row.al λb hbq7=>HZq7.o.block b (HA.o.row.lt b hbq7) (by have:=(HA.o.rlo b hbq7).1;omega)).sl (cx _) (by rw[List.length_map];exact hdn2) λb hbq7=>Nat.lt_of_lt_of_le (HA.o.row.lt b hbq7) hzs,Fr.low (M:=λb=>b=w.heap.size+1) (Fr.trans ((HWq7.o.1.trans HA.o.ext).mono λ_ h=>h.elim) HZq7.o) λb hbq7=>ad⟩
end Go.Proofs.YtkhnkojkplbioaaGreat

/- The reference's Fair. Conditions: a well-formed unit, 1000 rounds at most. -/
import Derived.Test.YtkhnkojkplbioaaGreatESchF
import Derived.Test.YtkhnkojkplbioaaGreatQ47
namespace Go.Proofs.YtkhnkojkplbioaaGreat
open Go.RowKit
set_option maxRecDepth 1000000
set_option linter.unusedVariables false
structure RfAt(w0q7 w:World)(g:Nat)(q:SV)(A:Option Addr)(n c:Nat)(F:List Nat)(s:ai)(l:List Int):Prop where
 ext:Ext w0q7 w
 lo:w0q7.heap.size<=g
 blk:aq w g 40 (q.val s)
 row:Own w 3 1 A n c (l.map df) F
 len:l.length=n
 rlo:∀b∈F,w0q7.heap.size<=b/\b≠g
 Ho:q.Is w (λb=>w0q7.heap.size<=b/\b<w.heap.size/\b≠g/\b∉F) s
theorem RfAt.aj{w0q7 w w':World}{g:Nat}{q:SV}{A:Option Addr}{n c:Nat}{F:List Nat}{s:ai}{l:List Int}(h:RfAt w0q7 w g q A n c F s l)(he:Ext w w'):RfAt w0q7 w' g q A n c F s l:=
 ⟨h.ext.trans he,h.lo,h.blk.aj he,h.row.aj he,h.len,h.rlo,(h.Ho.al λb hbq7=>he.block b hbq7.2.1 λh=>h).mono λb hbq7=>⟨hbq7.1,Nat.lt_of_lt_of_le hbq7.2.1 he.size,hbq7.2.2⟩⟩
set_option maxRecDepth 1000000 in
set_option maxHeartbeats 1600000 in
theorem rfair(u:ay)(r:Int)(K:Nat)(w:World)(p:UV)(hU:tV u)(hu:p.Ok w u)(hrq7:r<=50)(hK:r.toNat=K) :
  Calls Tryz.prog 42 #[.agg (p.val u),.int .i64 r] w (FairRes w (fairS u K (dG u)).1 (fairS u K (dG u)).2):=by
 obtain⟨GA,gn,gc,MA,mn,mc,PA,pn,pc⟩:=p;have HVq7:=ae hu;have HUq7:=ae hU;have hK5:K<=50:=ad;have hmm:∀k:Nat,decide ((k:Int)<min r 1000)=decide (k<K):=λk=>by
  by_cases h:k<K
  .rw[decide_eq_true h,decide_eq_true ad]
  .rw[decide_eq_false h,decide_eq_false ad]
 have HMM:=ae hmm;clear hU hu hK hmm;dsimp only[UV.val];go_enter Tryz.func42,Tryz.ntmps42;go_upto_region 1 with(fail);generalize hWq7:World.alloc _ _=W;have hEq7:Ext w W:=by rw[<-hWq7];exact((Fr.refl _ _).alloc _).alloc _
 have hBq7:aq W w.heap.size 30 #[.slice GA gn gc,.slice MA mn mc,.slice PA pn pc,.int .i64 u.main]:=by rw[<-hWq7];exact(aq.new _ _ _).alloc _
 have hRq7:aq W (w.heap.size+1) 40 #[.slice none 0 0,.slice none 0 0,.slice none 0 0,.int .i64 0]:=by rw[<-hWq7];exact aq.gC _ _ _ (by simp)
 have HWq7:=ae (And.intro hEq7 (And.intro hRq7 (And.intro (HVq7.o.on hEq7) hBq7)));have hWs:=hEq7.size;have hRl:=hRq7.lt;obtain⟨a0,a0f,a0l⟩:=hBq7.two;clear hWq7 hEq7 hBq7 hRq7 HVq7;go_wp2_with(fail);refine(J9 u W ⟨GA,gn,gc,MA,mn,mc,PA,pn,pc⟩ HUq7.o HWq7.o.2.2.1).mono ?_;rintro e w1q7 ⟨⟨SA,snq7,scq7,TA,tn,tc,HA,hn',hc⟩,rfl,hq0,hE1⟩;have H1:=ae (And.intro hq0 hE1);have hs1:=hE1.size;clear hq0 hE1 a0 a0f a0l;dsimp only[SV.val];go_upto_region 2 with(fail);generalize hV:World.alloc _ _=V;have hEV:Ext w1q7 V:=by rw[<-hV];exact(Fr.refl _ _).alloc _
 have hBV:aq V w1q7.heap.size 40 #[.slice SA snq7 scq7,.slice TA tn tc,.slice HA hn' hc,.int .i64 (dG u).fault]:=by rw[<-hV];exact aq.new _ _ _
 have hVg:=hBV.lt;have hqV:(⟨SA,snq7,scq7,TA,tn,tc,HA,hn',hc⟩:SV).Is V (λb=>W.heap.size<=b/\b<V.heap.size/\b≠w1q7.heap.size/\b∉([]:List Nat)) (dG u):=(H1.o.1.al λb hbq7=>hEV.block b (hbq7.resolve_left λh=>h).2 λh=>h).mono λb hbq7=>by
  have:=hbq7.resolve_left λh=>h;exact⟨ad,ad,ad,List.not_mem_nil⟩
 have h0:RfAt W V w1q7.heap.size ⟨SA,snq7,scq7,TA,tn,tc,HA,hn',hc⟩ none 0 0 [] (dG u) []:=⟨H1.o.2.trans hEV,hs1,hBV,⟨⟨rfl,.inl ⟨rfl,rfl⟩⟩,rfl⟩,rfl,λb hbq7=>(List.not_mem_nil hbq7).elim,hqV⟩
 have H0q7:=ae h0;clear hV hEV hBV hqV h0;generalize hgq7:w1q7.heap.size=g at *;clear hgq7;go_wp2_with(fail);go_loopw [7,8] (λdvq7 ivq7 wr=>∃(k:Nat) (q:SV) (D:Option Addr) (dnq7 dcq7:Nat) (F:List Nat),dvq7=.slice D dnq7 dcq7/\ivq7=.int .i64 k/\k<=K/\RfAt W wr g q D dnq7 dcq7 F (fairS u k (dG u)).1 (fairS u k (dG u)).2) (λ_ ivq7 _=>K - (intOf ivq7).toNat)
 case atStart=>exact⟨0,_,_,_,_,_,rfl,rfl,ad,H0q7.o⟩
 case round=>
  obtain⟨k,⟨SB,sm,sdq7,TB,tmq7,tdq7,HBq7,hm,hd⟩,D,dnq7,dcq7,F,rfl,rfl,hkq7,hAq7⟩:=hrel;obtain⟨g0q7,g0f,g0l⟩:=hAq7.blk.two;have hcm:=HMM.o k;by_cases hlt:k<K
  .have hfo:=fair_ok HUq7.o.ok k;have hsn:=fair_snoc (u:=u) k (dG u);generalize fairS u k (dG u)=R at *;obtain⟨S,L⟩:=R;have hthr:=hfo.1.xl;obtain rfl:S.threads.length=hm:=by have:=hAq7.Ho.at_.h.1;simpa using this
   have HRq7:=ae (And.intro hAq7 (And.intro hfo hsn));clear hAq7 hfo hsn;rw[decide_eq_true hlt] at hcm;go_upto_region 6 with(fail);refine eC (λ_=>False) [(0,3),(1,0),(2,3),(3,3),(4,3)] ?_;refine pf ?_;refine ph ?_
   iterate 3 refine pf ?_
   refine aC ?_;have HR2:=ae (HRq7.o.1.aj (Fr.refl _ wr).drew);generalize World.drew wr=wqq7 at *;clear g0q7 g0f g0l hcm;go_wp2_with(fail);go_loopw [7,9] (λdvq7 jvq7 wr2=>∃(j:Nat) (q:SV) (D:Option Addr) (dnq7 dcq7:Nat) (F:List Nat),dvq7=.slice D dnq7 dcq7/\jvq7=.int .i64 j/\j<=S.threads.length/\RfAt W wr2 g q D dnq7 dcq7 F (gE u S ((Ka S).take j)) (L++iU u S ((Ka S).take j))) (λ_ jvq7 _=>S.threads.length - (intOf jvq7).toNat)
   case atStart=>exact⟨0,_,_,_,_,_,rfl,rfl,ad,by rw[List.take_zero];show RfAt _ _ _ _ _ _ _ _ S (L++[]);rw[List.append_nil];exact HR2.o⟩
   case round=>
    obtain⟨j,⟨SB2,sm2,sd2,TB2,tm2,td2,HB2,hm2,hd2⟩,D2q7,en,ec,F2,rfl,rfl,hjq7,hA2⟩:=hrel;have HA2:=ae hA2;by_cases hjl:j<S.threads.length
    .have hro:=round_ok HUq7.o.ok HRq7.o.2.1.1 HRq7.o.2.1.2 j ad;have hst:=round_step (u:=u) hjl L;have hen:en<=1000000:=by have:=hA2.len;omega
     generalize gE u S ((Ka S).take j)=s2 at *;generalize L++iU u S ((Ka S).take j)=l2q7 at *;have HRO:=ae (And.intro hro.1 hst);obtain⟨x0q7,x0f,x0l⟩:=(HWq7.o.2.2.2.aj hA2.ext).two;obtain⟨g0q7,g0f,g0l⟩:=hA2.blk.two;have hgF:g∉F2:=λhbq7=>(hA2.rlo g hbq7).2 rfl;clear hro hA2 hst;go_wp2_with(fail);refine(Ht u s2 j (32*k+32) (λb=>W.heap.size<=b/\b<wr.heap.size/\b≠g/\b∉F2) _ ⟨GA,gn,gc,MA,mn,mc,PA,pn,pc⟩ ⟨SB2,sm2,sd2,TB2,tm2,td2,HB2,hm2,hd2⟩ HUq7.o HRO.o.1 ad (HWq7.o.2.2.1.on HA2.o.ext) HA2.o.Ho (λb hbq7=>hbq7.2.1)).mono ?_;rintro e w4q7 ⟨⟨SC,cmq7,cdq7,TC,tm3,td3,HCq7,hm3,hd3⟩,rfl,hq4,hE4⟩;have hfl:(aV u s2 j).2=false->(aV u s2 j).1=s2:=ka;generalize hT:(aV u s2 j).1=T at *;generalize hbb:(aV u s2 j).2=b at *;have H4q7:=ae (And.intro hq4 (And.intro hE4 hfl));have hs4:=hE4.size;clear hq4 hE4 x0q7 x0f x0l g0q7 g0f hfl hT hbb;dsimp only[SV.val];go_upto_region 10 with(fail);generalize hX:World.alloc _ _=X;have hEX:Ext w4q7 X:=by rw[<-hX];exact(Fr.refl _ _).alloc _
     have hBX:aq X w4q7.heap.size 40 #[.slice SC cmq7 cdq7,.slice TC tm3 td3,.slice HCq7 hm3 hd3,.int .i64 T.fault]:=by rw[<-hX];exact aq.new _ _ _
     have hAX:=HA2.o.aj (H4q7.o.2.1.trans hEX);have hXl:=hBX.lt;have HXq7:=ae (And.intro hEX (And.intro hBX hAX));obtain⟨x0q7,x0f,x0l⟩:=hBX.two;obtain⟨g0q7,g0f,g0x⟩:=hAX.blk.two;have hxF:w4q7.heap.size∉F2:=λhbq7=>by have:=HA2.o.row.lt _ hbq7;omega
     have hgx:w4q7.heap.size≠g:=ad;clear hX hEX hBX hAX
     cases b with
     | false=>
      go_wp2_with(fail);go_roundw
      case rel=>
       have hs:=HRO.o.2;refine⟨j+1,⟨SB2,sm2,sd2,TB2,tm2,td2,HB2,hm2,hd2⟩,D2q7,en,ec,F2,rfl,by go_num,ad,?_⟩;rw[hs.1,hs.2,H4q7.o.2.2 (by trivial)];simpa using HXq7.o.2.2
      case measure=>simp[intOf];omega
     | true=>
      go_upto_region 11 with(fail);refine eC (λb=>b∈F2) [(0,0),(1,3),(2,3),(3,1),(4,1),(5,2),(6,3)] ?_;refine oQ ?_
      iterate 2 refine pf ?_
      refine rz ?_;refine ml (λV=>Ext X V/\aq V X.heap.size 3 #[.int .i64 j]/\V.heap.size=X.heap.size+1) ⟨by first|exact((Fr.refl _ X).drew).alloc _|exact((Fr.refl _ X).alloc _).drew,by first|exact aq.new X _ _|exact aq.new X.drew _ _,by simp⟩ (λU hU=>?_);have HU2:=ae hU;clear hU;refine aG rfl (λK hK=>?_);rw[if_pos (by rfl)];refine yA dh (.tmp 38) (.tmp 40) rfl (HXq7.o.2.2.row.aj HU2.o.1) HU2.o.2.1 rfl rfl rfl (by simp[Value.oneCell']) ad ad ?_;intro A2 c2 w6q7 g1q7 g2 g3q7;refine dq hK (g2) ?_;clear hK K;have hf6:Fr (λb=>b∈F2) X w6q7:=Fr.trans (HU2.o.1.mono λ_ h=>h.elim) g2;have hB6:=HXq7.o.2.2.blk.on hf6 hgF;have h6s:=hf6.size;have HGq7:=ae (And.intro g1q7 (And.intro hf6 (And.intro (λb hbq7=>(g3q7 b hbq7).imp id (λh=>(⟨by have:=HU2.o.2.2;omega,h.2⟩:X.heap.size<=b/\b<w6q7.heap.size))) hB6)));clear g1q7 g2 g3q7 x0q7 x0f x0l g0q7 g0f g0x;obtain⟨g0q7,g0f,g0x⟩:=hB6.two;clear hf6 hB6;refine ax rfl (λK hK=>?_);go_simp;refine dP hK ?_;clear hK K;refine pf ?_;refine aC ?_;generalize hZq7:World.setCell _ _ _=Z;obtain⟨hBZ,hFZ⟩:=km 0 [.slice SC cmq7 cdq7,.slice TC tm3 td3,.slice HCq7 hm3 hd3,.int .i64 T.fault] HGq7.o.2.2.2 hZq7;have HZq7:=ae (And.intro hBZ hFZ);clear hZq7 hBZ hFZ g0q7 g0f g0x;go_wp2_with(fail);go_roundw
      case rel=>
       have hs:=HRO.o.2;have hlt2:=HA2.o.row.lt;have hrlo:=HA2.o.rlo;have hFw:Fr (λb=>b∈F2\/b=g) X Z:=Fr.trans (HGq7.o.2.1.mono λ_ h=>.inl h) (HZq7.o.2.mono λ_ h=>.inr h);have hZs:=HZq7.o.2.size;have hw0:=HA2.o.ext.size;have hXs:=HXq7.o.1.size;have hglo:=HA2.o.lo;have hg2:∀b∈bt A2 (en+1) c2,b≠g/\W.heap.size<=b/\(b∈F2\/X.heap.size<=b):=λb hbq7=>by
        rcases HGq7.o.2.2.1 b hbq7 with h|h
        .exact⟨(hrlo b h).2,(hrlo b h).1,.inl h⟩
        .exact⟨ad,ad,.inr h.1⟩
       refine⟨j+1,⟨SC,cmq7,cdq7,TC,tm3,td3,HCq7,hm3,hd3⟩,A2,en+1,c2,bt A2 (en+1) c2,by first|rfl|go_num,by go_num,ad,?_⟩;rw[hs.1,hs.2];refine⟨?_,hglo,HZq7.o.1,?_,?_,λb hbq7=>⟨(hg2 b hbq7).2.1,(hg2 b hbq7).1⟩,?_⟩
       .exact Fr.low (M:=λb=>b∈F2\/b=g) (Fr.trans (HXq7.o.2.2.ext.mono λ_ h=>h.elim) hFw) λb hbq7=>by
         rcases hbq7 with hbq7|hbq7
         .exact(hrlo b hbq7).1
         .subst hbq7;exact hglo
       .rw[if_pos (by trivial),List.map_append];exact HGq7.o.1.al λb hbq7=>HZq7.o.2.block b (HGq7.o.1.lt b hbq7) (hg2 b hbq7).1
       .rw[if_pos (by trivial),List.length_append,HA2.o.len];rfl
       .refine((H4q7.o.1.al (ab:=X) λb hbq7=>HXq7.o.1.block b (hbq7.elim (λh=>ad) λh=>h.2) λh=>h).al λb hbq7=>?_).mono λb hbq7=>?_
        .have h1q7:b<X.heap.size/\b≠g/\b∉F2:=by
          rcases hbq7 with hbq7|hbq7
          .exact⟨ad,hbq7.2.2.1,hbq7.2.2.2⟩
          .exact⟨ad,ad,λhc=>by have:=hlt2 b hc;omega⟩
         exact(HZq7.o.2.block b ad h1q7.2.1).trans (HGq7.o.2.1.block b h1q7.1 h1q7.2.2)
        .have h1q7:W.heap.size<=b/\b<X.heap.size/\b≠g/\b∉F2:=by
          rcases hbq7 with hbq7|hbq7
          .exact⟨hbq7.1,ad,hbq7.2.2.1,hbq7.2.2.2⟩
          .exact⟨ad,ad,ad,λhc=>by have:=hlt2 b hc;omega⟩
         refine⟨h1q7.1,ad,h1q7.2.2.1,λhc=>?_⟩;rcases (hg2 b hc).2.2 with h|h
         .exact h1q7.2.2.2 h
         .omega
      case measure=>simp[intOf];omega
    .clear hA2;go_wp2_with(fail);go_roundw
     case rel=>
      have hjT:(Ka S).take j=Ka S:=List.take_of_length_le (by rw[roundL_len];omega);have hA4:=HA2.o;rw[hjT] at hA4;refine⟨k+1,⟨SB2,sm2,sd2,TB2,tm2,td2,HB2,hm2,hd2⟩,D2q7,en,ec,F2,rfl,by go_num,ad,?_⟩;rw[HRq7.o.2.2];exact hA4
     case measure=>simp[intOf];omega
  .obtain rfl:k=K:=ad;rw[decide_eq_false hlt] at hcm;have HA:=ae hAq7;have hdn2:=hAq7.len;generalize fairS u k (dG u)=R at *;obtain⟨S,L⟩:=R;have hRr:=HWq7.o.2.1.aj HA.o.ext;have hgr:g≠w.heap.size+1:=by have:=HA.o.lo;omega
   have HRR:=ae (And.intro hRr (HWq7.o.1.trans HA.o.ext));obtain⟨r0q7,r0f,r0l⟩:=hRr.two;clear hAq7 hRr;go_wp2_with(fail);generalize hX:World.setCell _ _ _=Z;obtain⟨hBZ,hEZ,hFZ⟩:=bw (w:=w) [.slice SB sm sdq7,.slice TB tmq7 tdq7,.slice HBq7 hm hd,.int .i64 S.fault] (by rfl) HRR.o.1 HRR.o.2 ad hX;have HZq7:=ae (And.intro hEZ hFZ);clear hX hEZ hFZ r0q7 r0f r0l g0q7 g0f g0l;obtain⟨r0q7,r0f,r0l⟩:=hBZ.two;refine bodyPost_ret (v:=.tuple #[.agg #[.slice SB sm sdq7,.slice TB tmq7 tdq7,.slice HBq7 hm hd,.int .i64 S.fault],.slice D dnq7 dcq7]) (by simp[results,Tryz.results42,go_sem,r0q7]) rfl ?_;have hzs:=HZq7.o.2.size;exact⟨⟨SB,sm,sdq7,TB,tmq7,tdq7,HBq7,hm,hd⟩,D,dnq7,dcq7,rfl,(HA.o.Ho.al λb hbq7=>HZq7.o.2.block b hbq7.2.1 ad).ok λb hbq7=>Nat.lt_of_lt_of_le hbq7.2.1 hzs,hdn2,HA.o.row.cap,(HA.o.row.al λb hbq7=>HZq7.o.2.block b (HA.o.row.lt b hbq7) (by have:=(HA.o.rlo b hbq7).1;omega)).sl (cx _) (by rw[List.length_map];exact hdn2) λb hbq7=>Nat.lt_of_lt_of_le (HA.o.row.lt b hbq7) hzs,HZq7.o.1⟩
end Go.Proofs.YtkhnkojkplbioaaGreat

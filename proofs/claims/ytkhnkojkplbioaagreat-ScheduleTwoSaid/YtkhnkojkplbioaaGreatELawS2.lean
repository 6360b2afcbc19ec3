/- The law ScheduleTwo, walked. No condition but the fB of slices. -/
import Derived.Test.YtkhnkojkplbioaaGreatESchC
import Derived.Test.YtkhnkojkplbioaaGreatQ04
namespace Go.Proofs.YtkhnkojkplbioaaGreat
open Go.RowKit
set_option maxRecDepth 1000000
set_option linter.unusedVariables false
structure TwS(W V:World)(A:Option Addr)(n c:Nat)(l:List Int)(G:Nat->Prop):Prop where
 ext:Ext W V
 row:Gr (λ_=>False) W.heap.size 3 1 V A n c (l.map D.i)
 blk:∀g,G g->W.heap.size<=g/\aq V g 40 #[.slice none 0 0,.slice none 0 0,.slice none 0 0,.int .i64 0]/\(Value.slice A n c).ownBlock≠some g
section
variable {W V:World} {A:Option Addr} {n c:Nat} {l:List Int} {G:Nat->Prop}
theorem TwS.drew(h:TwS W V A n c l G):TwS W V.drew A n c l G:=⟨h.ext.drew,h.row.aj (Fr.refl _ _).drew,h.blk⟩
theorem TwS.al(h:TwS W V A n c l G):TwS W (V.alloc (.cells #[.slice none 0 0,.slice none 0 0,.slice none 0 0,.int .i64 0] 40)) A n c l (λg=>g=V.heap.size):=
 ⟨h.ext.alloc _,h.row.aj ((Fr.refl _ _).alloc _),λg hgq7=>by
  subst hgq7;exact⟨h.ext.size,aq.new _ _ _,λhbq7=>by have:=(h.row.lt hbq7).2;omega⟩⟩
theorem TwS.lit(h:TwS W V none 0 0 [] G):TwS W (V.alloc (.cells #[] 3)) (some ⟨V.heap.size,0,none⟩) 0 0 [] G:=
 ⟨h.ext.alloc _,(Gr.lit (w:=V) (n:=0) (l:=[]) rfl (by rfl) ad (by simp only[D.aQ])).base h.ext.size,λg hgq7=>by
  have h1q7:=h.blk g hgq7;exact⟨h1q7.1,h1q7.2.1.alloc _,λhbq7=>by
   simp[Value.ownBlock] at hbq7;have:=h1q7.2.1.lt;omega⟩⟩
theorem TwS.app{o:Oper}{a:Act}{K:Act->World->Prop}{Q:Exit->Act->World->Prop}(h:TwS W V A n c l G)(s x:Operand)(hoq7:o.op=.call {callee:=.builtin .append,args:=#[s,x],argTypes:=#[22,22]})
  {A2:Option Addr} {m c2:Nat} {k:List Int} (hkq7:cp (EF cP) 1 V V.heap.size A2 m k) (hs:a.eval s=.slice A n c) (hx:a.eval x=.slice A2 m c2) (hbq7:n+m<=1000)
  (hK:∀A' c' V',TwS W V' A' (n+m) c' (l++k) G->Fr (λb=>W.heap.size<=b) V V'->n+m<=c'->K (a.put o.dst (.slice A' (n+m) c')) V'):o.wp Tryz.prog a V K Q:=by
 have hsrc:=Src.lM hkq7 (jH k) (mY k) ad;rw[uA] at hsrc;refine xB dh s x hoq7 h.row (cx k) (by rw[List.length_map];exact hkq7.1) hsrc (λhn=>?_) hs hx ad ad h.ext.size λA' c' V' g1q7 g2 g3q7 g4q7=>?_
 .subst hn;rcases Nat.eq_zero_or_pos m with h0|h0
  .exact h0
  .obtain⟨_,_,_,h2q7,_⟩:=hkq7.int h0;cases h2q7
 .have hlt:=λb hbq7=>h.row.lt (g:=b) hbq7;have hF:Fr (λb=>W.heap.size<=b) V V':=g2.mono λb hbq7=>(hlt b hbq7).1;refine hK A' c' V' ⟨Fr.low (M:=λb=>W.heap.size<=b) (Fr.trans (h.ext.mono λ_ h=>h.elim) hF) λb hbq7=>hbq7,by rw[List.map_append];exact g1q7,λg hgq7=>?_⟩ hF g4q7;have h1q7:=h.blk g hgq7;refine⟨h1q7.1,h1q7.2.1.on g2 h1q7.2.2,λhbq7=>?_⟩;rcases g3q7 g hbq7 with h2q7|h2q7
  .exact h1q7.2.2 h2q7
  .have:=h1q7.2.1.lt;omega
end
theorem tw_nil(W:World):TwS W W none 0 0 [] (λ_=>False):=⟨Fr.refl _ _,Gr.nil _ _ _ _ _,λ_ h=>h.elim⟩
set_option maxRecDepth 1000000 in
set_option maxHeartbeats 1600000 in
theorem scheduleTwo_any(A B E:Option Addr)(n c m d meq7 deq7:Nat)(l pkq7 pk2:List Int)(w:World)(h:cp (EF cP) 1 w w.heap.size A n l)(hp:cp (EF cP) 1 w w.heap.size B m pkq7)(hp2:cp (EF cP) 1 w w.heap.size E meq7 pk2)(hc:n<=c) :
  Calls Tryz.prog 10 #[.slice A n c,.slice B m d,.slice E meq7 deq7] w λe w'=>e=.returned (.bool true)/\Below w.heap.size w w':=by
 have H:=ae (And.intro h (And.intro hp hp2));clear h hp hp2;go_enter Tryz.func10,Tryz.ntmps10;go_wp2_with(fail);refine(Fi A n c l w H.o.1 hc).mono ?_;rintro e w1q7 ⟨u,b0q7,b1q7,b2q7,b3q7,b4,b5q7,m0q7,m1q7,m2q7,m3q7,m4q7,m5q7,d0,d1,d2,d3,d4,d5,GA,gn,gc,MA,mn,mc,PA,pn,pc,rfl,hU,_,_,_,hrep,hE1⟩;have hu1:(⟨GA,gn,gc,MA,mn,mc,PA,pn,pc⟩:UV).Ok w1q7 u:=uvAt hrep λb hbq7=>hbq7.2;have H1:=ae (And.intro hU (And.intro hu1 hE1));clear hU hu1 hE1 hrep;go_upto_region 2 with(fail);generalize hX:World.alloc _ _=X;have hEX:Ext w1q7 X:=by rw[<-hX];exact(((Fr.refl _ _).alloc _).alloc _).alloc _
 have hBX:aq X (w1q7.heap.size+1) 30 #[.slice GA gn gc,.slice MA mn mc,.slice PA pn pc,.int .i64 u.main]:=by rw[<-hX];exact(aq.gC _ _ _ (by simp)).alloc _
 have hEw:=H1.o.2.2.trans hEX;have HXq7:=ae (And.intro (H1.o.2.1.on hEX) (And.intro hEw (And.intro hBX (And.intro (H.o.2.1.c8 hEw.ext hEw.size) (H.o.2.2.c8 hEw.ext hEw.size)))));clear hX hEX hBX hEw;go_wp2_with(fail);refine(sc B m d 60 pkq7 X HXq7.o.2.2.2.1 ad).mono ?_;rintro r w3q7 ⟨A3q7,c3,rfl,hc3,hl3,hb3⟩;have hlen3:=picksL_len pkq7 60;generalize cr pkq7 60=L at *;generalize hn3:L.length=n3 at *;have H3q7:=ae (And.intro (show cp (EF cP) 1 w3q7 w3q7.heap.size A3q7 n3 L from hl3) (And.intro (show Ext X w3q7 from belowE hb3) hn3));clear hl3 hb3 hn3;go_wp2_with(fail);refine(sc E meq7 deq7 60 pk2 w3q7 (HXq7.o.2.2.2.2.c8 H3q7.o.2.1.ext H3q7.o.2.1.size) ad).mono ?_;rintro r w4q7 ⟨A4q7,c4q7,rfl,hc4,hl4,hb4⟩;have hlen4:=picksL_len pk2 60;generalize cr pk2 60=L2 at *;generalize hn4:L2.length=n4 at *;have hE4:Ext w3q7 w4q7:=belowE hb4;have H4q7:=ae (And.intro (show cp (EF cP) 1 w4q7 w4q7.heap.size A4q7 n4 L2 from hl4) (And.intro (H3q7.o.2.1.trans hE4) (And.intro hn4 (H3q7.o.1.c8 hE4.ext hE4.size))));clear hl4 hb4 hn4 hE4;have hXu:=HXq7.o.2.2.1.aj H4q7.o.2.1;have HU4:=ae (And.intro (HXq7.o.1.on H4q7.o.2.1) hXu);obtain⟨x0q7,x0f,x0l⟩:=hXu.two;clear hXu;go_wp2_with(fail);refine(srun u L A3q7 n3 c3 w4q7 ⟨GA,gn,gc,MA,mn,mc,PA,pn,pc⟩ H1.o.1 HU4.o.1 H4q7.o.2.2.2 ad).mono ?_;rintro e w5q7 ⟨⟨SA,snq7,scq7,TA,tn,tc,HA,hn',hcc⟩,rfl,hq0,hE5⟩;have hs5:=hE5.size;have H5q7:=ae (And.intro hq0 hE5);clear hq0 hE5 x0q7 x0f;dsimp only[SV.val];go_upto_region 4 with(fail);generalize hV:World.alloc _ _=V
 have hEV:Ext w5q7 V:=by rw[<-hV];exact(Fr.refl _ _).alloc _
 have hBV:aq V w5q7.heap.size 40 #[.slice SA snq7 scq7,.slice TA tn tc,.slice HA hn' hcc,.int .i64 (gE u (dG u) L).fault]:=by rw[<-hV];exact aq.new _ _ _
 have hVg:=hBV.lt;have hqV:(⟨SA,snq7,scq7,TA,tn,tc,HA,hn',hcc⟩:SV).Is V (λb=>w4q7.heap.size<=b/\b<V.heap.size/\b≠w5q7.heap.size) (gE u (dG u) L):=(H5q7.o.1.al λb hbq7=>hEV.block b hbq7.2 λh=>h).mono λb hbq7=>ad;have HVV:=ae (And.intro hqV (And.intro hBV (H5q7.o.2.trans hEV)));clear hV hEV hBV hqV;generalize hgq7:w5q7.heap.size=g at *;clear hgq7;go_wp2_with(fail);go_loopw [13,14] (λnvq7 ivq7 wr=>∃(i:Nat) (q:SV),nvq7=.int .i64 ((iU u (dG u) (L++L2.take i)).length:Int)/\ivq7=.int .i64 i/\i<=n4/\Fr (λb=>b=g) V wr/\aq wr g 40 (q.val (gE u (dG u) (L++L2.take i)))/\q.Is wr (λb=>w4q7.heap.size<=b/\b<wr.heap.size/\b≠g) (gE u (dG u) (L++L2.take i))) (λ_ ivq7 _=>n4 - (intOf ivq7).toNat)
 case atStart=>
  refine⟨0,⟨SA,snq7,scq7,TA,tn,tc,HA,hn',hcc⟩,?_,rfl,ad,Fr.refl _ _,?_,?_⟩
  .rw[List.take_zero,List.append_nil]
  .rw[List.take_zero,List.append_nil];exact HVV.o.2.1
  .rw[List.take_zero,List.append_nil];exact HVV.o.1
 case round=>
  obtain⟨i,⟨SB,sm,sdq7,TB,tmq7,tdq7,HBq7,hm,hd⟩,rfl,rfl,hiq7,hF,hBl,hIs⟩:=hrel;have hWr:Ext w4q7 wr:=Fr.low (M:=λb=>b=g) (Fr.trans (Fr.mono HVV.o.2.2 λ_ h=>h.elim) hF) λb hbq7=>ad;have hLl:(L++L2.take i).length<=120:=by
   rw[List.length_append,List.length_take];have:=H3q7.o.2.2;omega
  have hok:=run_state H1.o.1 hLl;have hus:=Iw (u:=u) (L++L2.take i) (dG u);have hub:(iU u (dG u) (L++L2.take i)).length<=120:=ad;have hsn:∀t,L2[i]?=some t->gE u (dG u) (L++L2.take (i+1))=(aV u (gE u (dG u) (L++L2.take i)) t).1/\(iU u (dG u) (L++L2.take (i+1))).length=(iU u (dG u) (L++L2.take i)).length+(if (aV u (gE u (dG u) (L++L2.take i)) t).2 then 1 else 0):=λt ht=>by
   rw[a1 ht,<-List.append_assoc];exact⟨II _ _ _ _,IJ _ _ _ _⟩
  have hlast:i=n4->L2.take i=L2:=λh=>List.take_of_length_le (aD H4q7.o.2.2.1);generalize hS:gE u (dG u) (L++L2.take i)=S at *;generalize hM:(iU u (dG u) (L++L2.take i)).length=M at *;have hrs:=hF.size;have hrl:=hBl.lt;obtain⟨x0q7,x0f,x0w⟩:=(HU4.o.2.aj hWr).two;obtain⟨g0q7,g0f,g0l⟩:=hBl.two;by_cases hlt:i<n4
  .obtain⟨b,o,t,hAe,hbq7,hx,hc⟩:=(H4q7.o.1.c8 (Fr.ext hWr) hWr.size).int hlt;subst hAe;have HRq7:=ae (And.intro hF (And.intro hBl (And.intro hIs (And.intro hWr (And.intro hok (hsn t hx))))));clear hF hBl hIs hWr hok hsn hlast hS hM hus hLl hx;have hex:∃(bb:Bool) (T:ai),aV u S t=(T,bb):=⟨_,_,rfl⟩
   obtain⟨bb,T,hbT⟩:=hex;have hst:∀V,Ext wr V->Calls Tryz.prog 18 #[.agg ((⟨GA,gn,gc,MA,mn,mc,PA,pn,pc⟩:UV).val u),.agg ((⟨SB,sm,sdq7,TB,tmq7,tdq7,HBq7,hm,hd⟩:SV).val S),.int .i64 t] V (cV mW V T bb):=by
    intro V hV;have:=qv u S t 120 V ⟨GA,gn,gc,MA,mn,mc,PA,pn,pc⟩ ⟨SB,sm,sdq7,TB,tmq7,tdq7,HBq7,hm,hd⟩ H1.o.1 HRq7.o.2.2.2.2.1 ad (HU4.o.1.on (HRq7.o.2.2.2.1.trans hV)) ((HRq7.o.2.2.1.ok λb hbq7=>hbq7.2.1).on hV)
    rwa [hbT] at this
   have hfl:bb=false->T=S:=λhbq7=>by
    have:=ka (u:=u) (s:=S) (t:=t) (by rw[hbT];exact hbq7)
    rwa [hbT] at this
   have hs2:=HRq7.o.2.2.2.2.2;rw[hbT] at hs2;have HST:=ae (And.intro hst (And.intro hfl hs2));clear hst hfl hs2 hbT;go_upto_region 7 with(fail);refine rC (λ_=>False) [11] (.held 0 (.held 1 (.free 2 (.free 3 (.free 4 (.held 5 (.pick [6,10] (λi=>bif i == 6 then .free 7 (.free 8 (.free 9 (.pick [10] (λ_=>.pick [11] (λ_=>.free 12 (.stop)))))) else .pick [6] (λ_=>.free 7 (.free 8 (.free 9 (.pick [11] (λ_=>.free 12 (.stop)))))))))))))) ?_
   iterate 2 refine th ?_
   iterate 3 refine tf ?_
   refine th ?_;refine mu (P:=?oU) (ops:=?Ie) (Q:=?Ih) (R:=?Ij) (tails:=?Iu) (rest:=.pick [11] (λ_=>.free 12 (.stop))) (aa:=?HP)
    (C:=λ(gxq7:Nat) (Y:Value) WV=>Ext wr WV/\aq WV gxq7 40 #[.slice none 0 0,.slice none 0 0,.slice none 0 0,.int .i64 0]/\wr.heap.size<=gxq7/\∃q':SV,Y=.agg (q'.val T)/\q'.Is WV (λb=>wr.heap.size<=b/\b<WV.heap.size/\b≠gxq7) T) (λkey=>?wP) ?wI
   case wP=>
    refine a2 ?_ ?_
    ·
     refine aB rfl (λK hK=>?_) rfl;go_simp;refine(HST.o.1 wr.drew (Fr.refl _ wr).drew).mono ?_;rintro e w6q7 ⟨q',rfl,hq',hE2⟩;refine dq hK (hE2) ?_;clear hK K
     iterate 3 refine tf ?_
     refine ao ?_;refine dT ?_;generalize hZq7:World.alloc _ _=Z;have e2:Ext w6q7 Z:=by rw[<-hZq7];exact(Fr.refl _ _).alloc _
     have hz2:wr.heap.size<=w6q7.heap.size:=hE2.size;have hz3:=e2.size;have F:Ext wr Z/\aq Z w6q7.heap.size 40 #[.slice none 0 0,.slice none 0 0,.slice none 0 0,.int .i64 0]/\wr.heap.size<=w6q7.heap.size/\∃q2q7:SV,(Value.agg (q'.val T))=.agg (q2q7.val T)/\q2q7.Is Z (λb=>wr.heap.size<=b/\b<Z.heap.size/\b≠w6q7.heap.size) T:=
      ⟨(Fr.aF hE2).trans e2,by rw[<-hZq7];exact aq.new _ _ _,hz2,q',rfl,(hq'.al λb hbq7=>e2.block b (hbq7.elim (λh=>h.elim) λh=>h.2) λh=>h).mono λb hbq7=>by
       have hd:wr.drew.heap.size=wr.heap.size:=rfl;have:=hbq7.resolve_left λh=>h;omega⟩
     clear hZq7 e2 hz2 hz3 hq' hE2;revert F;generalize w6q7.heap.size=gxq7;generalize (Value.agg (q'.val T))=Y;intro F;exact key gxq7 Y _ F
    ·
     refine dT ?_;generalize hV2:World.drew (World.alloc _ _)=W1;have e1:Ext wr W1:=by rw[<-hV2];exact((Fr.refl _ _).alloc _).drew
     have hB1:aq W1 wr.heap.size 40 #[.slice none 0 0,.slice none 0 0,.slice none 0 0,.int .i64 0]:=by rw[<-hV2];exact aq.new _ _ _
     have hs1':=hB1.lt;refine ao ?_;refine aB rfl (λK hK=>?_) rfl;go_simp;refine(HST.o.1 W1 e1).mono ?_;rintro e w6q7 ⟨q',rfl,hq',hE2⟩;refine dq hK (hE2) ?_;clear hK K
     iterate 3 refine tf ?_
     have hz2:=hE2.size;have F:Ext wr w6q7/\aq w6q7 wr.heap.size 40 #[.slice none 0 0,.slice none 0 0,.slice none 0 0,.int .i64 0]/\wr.heap.size<=wr.heap.size/\∃q2q7:SV,(Value.agg (q'.val T))=.agg (q2q7.val T)/\q2q7.Is w6q7 (λb=>wr.heap.size<=b/\b<w6q7.heap.size/\b≠wr.heap.size) T:=
      ⟨e1.trans hE2,hB1.aj hE2,Nat.le_refl _,q',rfl,hq'.mono λb hbq7=>by
       have:=hbq7.resolve_left λh=>h;omega⟩
     exact key wr.heap.size _ _ F
   case wI=>
    rintro gxq7 Y WV ⟨hE4,hBx,hgx,⟨SC,cmq7,cdq7,TC,tm2,td2,HCq7,hm2,hd2⟩,rfl,hq4⟩;dsimp only[SV.val];obtain⟨y0q7,y0f,y0l⟩:=hBx.two;clear x0q7 x0f x0w g0q7 g0f hc;refine ao ?_;refine bQ rfl (λK hK=>?_) rfl;go_simp;refine dP hK ?_;clear hK K;refine tf ?_;refine b9 ?_;generalize hX:World.setCell _ _ _=Z;obtain⟨hBZ,hEZ,hFZ⟩:=bw (w:=wr) [.slice SC cmq7 cdq7,.slice TC tm2 td2,.slice HCq7 hm2 hd2,.int .i64 T.fault] (by rfl) hBx hE4 hgx hX;have hq5:(⟨SC,cmq7,cdq7,TC,tm2,td2,HCq7,hm2,hd2⟩:SV).Is Z (λb=>w4q7.heap.size<=b/\b<Z.heap.size/\b≠g) T:=(hq4.al λb hbq7=>hFZ.block b hbq7.2.1 hbq7.2.2).mono λb hbq7=>by
     have:=hFZ.size;have:=HRq7.o.2.2.2.1.size;omega
    have hBs:=HRq7.o.2.1.aj hEZ;have HZq7:=ae (And.intro hEZ (And.intro hq5 hBs));have hZs:=hEZ.size;obtain⟨y0q7,y0f,y0l⟩:=hBZ.two;obtain⟨g0q7,g0f,g0x⟩:=hBs.two;clear hX hBx hE4 hq4 hFZ hEZ hq5 hBs hBZ
    cases bb with
    | true=>
     go_wp2_with(fail);generalize hYq7:World.setCell _ _ _=Y2;obtain⟨hBY,hFY⟩:=km 0 [.slice SC cmq7 cdq7,.slice TC tm2 td2,.slice HCq7 hm2 hd2,.int .i64 T.fault] HZq7.o.2.2 hYq7;have HYq7:=ae (And.intro hBY hFY);clear hYq7 hBY hFY y0q7 y0f y0l g0q7 g0f g0x;go_roundw
     case rel=>
      have hs:=HST.o.2.2;have hys:=HYq7.o.2.size;refine⟨i+1,⟨SC,cmq7,cdq7,TC,tm2,td2,HCq7,hm2,hd2⟩,?_,by go_num,ad,Fr.trans (Fr.trans HRq7.o.1 (HZq7.o.1.mono λ_ h=>h.elim)) HYq7.o.2,?_,?_⟩
      .rw[hs.2];simp
      .rw[hs.1];exact HYq7.o.1
      .rw[hs.1];exact(HZq7.o.2.1.al λb hbq7=>HYq7.o.2.block b hbq7.2.1 hbq7.2.2).mono λb hbq7=>ad
     case measure=>simp[intOf];omega
    | false=>
     go_wp2_with(fail);clear y0q7 y0f y0l g0q7 g0f g0x;go_roundw
     case rel=>
      have hs:=HST.o.2.2;refine⟨i+1,⟨SB,sm,sdq7,TB,tmq7,tdq7,HBq7,hm,hd⟩,?_,by go_num,ad,Fr.trans HRq7.o.1 (HZq7.o.1.mono λ_ h=>h.elim),?_,?_⟩
      .rw[hs.2];simp
      .rw[hs.1,HST.o.2.1 (by trivial)];exact HZq7.o.2.2
      .rw[hs.1,HST.o.2.1 (by trivial)];exact(HRq7.o.2.2.1.Ho (λb hbq7=>hbq7.2.1) HZq7.o.1).mono λb hbq7=>ad
     case measure=>simp[intOf];omega
  .have hin:i=n4:=ad;rw[hlast hin] at hS hM;have HLq7:=ae (And.intro (H4q7.o.2.2.2.c8 (Fr.ext hWr) hWr.size) (H4q7.o.1.c8 (Fr.ext hWr) hWr.size));have HRq7:=ae (And.intro hBl (And.intro hIs (And.intro hWr hok)));have hrn:∀(V:World) (A:Option Addr) (ccq7:Nat),Ext wr V->Gr (λ_=>False) wr.heap.size 3 1 V A (n3+n4) ccq7 ((L++L2).map D.i)->Calls Tryz.prog 36 #[.agg ((⟨GA,gn,gc,MA,mn,mc,PA,pn,pc⟩:UV).val u),.slice A (n3+n4) ccq7] V (zC V S M):=λV A ccq7 hV hG=>by
    have:=srun u (L++L2) A (n3+n4) ccq7 V ⟨GA,gn,gc,MA,mn,mc,PA,pn,pc⟩ H1.o.1 (HU4.o.1.on (hWr.trans hV)) (Sl.ints (hG.sl (λb hbq7 _=>hbq7) (λb hbq7 _=>hbq7))) ad
    rwa [hS,hM] at this
   have HRN:=ae hrn;clear hF hBl hIs hWr hok hus hsn hlast hS hM hrn hLl hin;have hxn:¬wr.heap.size<=w1q7.heap.size+1:=ad;have k0q7:=tw_nil wr;clear g0q7 g0f g0l;go_upto_region 10 with(fail);refine rC (λb=>wr.heap.size<=b) [11] (.held 0 (.free 2 (.free 4 (.pick [1,10] (λi=>bif i == 1 then .pick [3,10] (λi=>bif i == 3 then .pick [5,10] (λi=>bif i == 5 then .pick [6,10] (λi=>bif i == 6 then .free 7 (.free 8 (.free 9 (.pick [10] (λ_=>.pick [11] (λ_=>.free 12 (.stop)))))) else .pick [6] (λ_=>.free 7 (.free 8 (.free 9 (.pick [11] (λ_=>.free 12 (.stop))))))) else .pick [5] (λ_=>.pick [6] (λ_=>.free 7 (.free 8 (.free 9 (.pick [11] (λ_=>.free 12 (.stop)))))))) else .pick [3] (λ_=>.pick [5] (λ_=>.pick [6] (λ_=>.free 7 (.free 8 (.free 9 (.pick [11] (λ_=>.free 12 (.stop))))))))) else .pick [1] (λ_=>.pick [3] (λ_=>.pick [5] (λ_=>.pick [6] (λ_=>.free 7 (.free 8 (.free 9 (.pick [11] (λ_=>.free 12 (.stop)))))))))))))) ?_;refine nh ?_
   iterate 2 refine tf ?_
   refine xo (P:=?K4) (ops:=?La) (Q:=?Le) (R:=?Lg) (tails:=?Li) (rest:=.pick [11] (λ_=>.free 12 (.stop))) (aa:=?K9)
    (C:=λ(gxq7:Nat) (Y1 Y2 Y3 Y:Value) WV=>Ext wr WV/\aq WV gxq7 40 #[.slice none 0 0,.slice none 0 0,.slice none 0 0,.int .i64 0]/\wr.heap.size<=gxq7/\∃q':SV,Y=.agg (q'.val S)/\q'.Is WV (λb=>wr.heap.size<=b/\b<WV.heap.size/\b≠gxq7) S) (λkey=>?KN) ?KM
   case KN=>
     refine a2 ?_ ?_
     ·
      refine dT ?_;refine Ig (λV=>TwS wr V (some ⟨wr.heap.size,0,none⟩) 0 0 [] (λ_=>False)) (by first|exact k0q7.lit|exact k0q7.lit.drew|exact k0q7.drew.lit) (λU1 k1q7=>?_);refine a2 ?_ ?_
      ·
       refine aB rfl (λK hK=>?_) rfl;rw[if_pos (by rfl)];refine k1q7.app (.tmp 57) (.tmp 58) (by rfl) (HLq7.o.1.c8 k1q7.ext.ext k1q7.ext.size) (by rfl) (by rfl) ad ?_;intro A2 c2 U2 k2q7 f2 j2q7;simp only[Nat.zero_add,List.nil_append] at k2q7 j2q7 ⊢;refine dq hK (f2) ?_;clear hK K;refine a2 ?_ ?_
       ·
        refine aB rfl (λK hK=>?_) rfl;rw[if_pos (by rfl)];refine k2q7.app (.tmp 59) (.tmp 60) (by rfl) (HLq7.o.2.c8 k2q7.ext.ext k2q7.ext.size) (by rfl) (by rfl) ad ?_;intro A3q7 c3 U3 k3q7 f3 j3q7;refine dq hK (f3) ?_;clear hK K;refine a2 ?_ ?_
        ·
         refine aB rfl (λK hK=>?_) rfl;go_simp;refine(HRN.o U3 A3q7 c3 k3q7.ext k3q7.row).mono ?_;rintro e U4 ⟨q',rfl,hq',hE7⟩;refine dq hK ((hE7.mono λ_ h=>h.elim)) ?_;clear hK K
         iterate 3 refine tf ?_
         have k4q7:TwS wr U4 A3q7 (n3+n4) c3 (L++L2) (λ_=>False):=⟨k3q7.ext.trans hE7,k3q7.row.aj hE7,λg hgq7=>⟨(k3q7.blk g hgq7).1,(k3q7.blk g hgq7).2.1.aj hE7,(k3q7.blk g hgq7).2.2⟩⟩
         refine ao ?_;refine dT ?_;refine Ig (λV=>TwS wr V A3q7 (n3+n4) c3 (L++L2) (λg=>g=U4.heap.size)/\Ext U4 V) ⟨k4q7.al,(Fr.refl _ _).alloc _⟩ (λU5 hk5=>?_);have k5q7:=hk5.1;have HXL:=ae hk5.2;clear hk5;have hz7:=hE7.size;have hz8:=k5q7.ext.size;have hz9:=k3q7.ext.size;have hex:Ext U4 U5:=HXL.o;have hq8:q'.Is U5 (λb=>wr.heap.size<=b/\b<U5.heap.size/\b≠U4.heap.size) S:=(hq'.al λb hbq7=>hex.block b hbq7.2 λh=>h).mono λb hbq7=>by have:=hex.size;have:=(k5q7.blk _ rfl).2.1.lt;omega
         have F:Ext wr U5/\aq U5 (U4.heap.size) 40 #[.slice none 0 0,.slice none 0 0,.slice none 0 0,.int .i64 0]/\wr.heap.size<=U4.heap.size/\∃q2q7:SV,(Value.agg (q'.val S))=.agg (q2q7.val S)/\q2q7.Is U5 (λb=>wr.heap.size<=b/\b<U5.heap.size/\b≠U4.heap.size) S:=⟨k5q7.ext,(k5q7.blk _ rfl).2.1,(k5q7.blk _ rfl).1,q',rfl,hq8⟩
         revert F;generalize U4.heap.size=gxq7;generalize (Value.agg (q'.val S))=Y;generalize (Value.slice (some ⟨wr.heap.size,0,none⟩) 0 0)=Y1;generalize (Value.slice A2 n3 c2)=Y2;generalize (Value.slice A3q7 (n3+n4) c3)=Y3;intro F;exact key gxq7 Y1 Y2 Y3 Y _ F
        ·
         refine dT ?_;refine Ig (λV=>TwS wr V A3q7 (n3+n4) c3 (L++L2) (λg=>g=U3.heap.size)) (by first|exact k3q7.al|exact k3q7.al.drew|exact k3q7.drew.al) (λU6 k6q7=>?_);refine ao ?_;refine aB rfl (λK hK=>?_) rfl;go_simp;refine(HRN.o U6 A3q7 c3 k6q7.ext k6q7.row).mono ?_;rintro e U7 ⟨q',rfl,hq',hE7⟩;refine dq hK ((hE7.mono λ_ h=>h.elim)) ?_;clear hK K
         iterate 3 refine tf ?_
         have k7q7:TwS wr U7 A3q7 (n3+n4) c3 (L++L2) (λg=>g=U3.heap.size):=⟨k6q7.ext.trans hE7,k6q7.row.aj hE7,λg hgq7=>⟨(k6q7.blk g hgq7).1,(k6q7.blk g hgq7).2.1.aj hE7,(k6q7.blk g hgq7).2.2⟩⟩
         have hz7:=hE7.size;have hz8:=k7q7.ext.size;have hz9:=k6q7.ext.size;have hgl:=(k6q7.blk _ rfl).2.1.lt;have hq8:q'.Is U7 (λb=>wr.heap.size<=b/\b<U7.heap.size/\b≠U3.heap.size) S:=hq'.mono λb hbq7=>by have:=k6q7.ext.size;omega
         have F:Ext wr U7/\aq U7 (U3.heap.size) 40 #[.slice none 0 0,.slice none 0 0,.slice none 0 0,.int .i64 0]/\wr.heap.size<=U3.heap.size/\∃q2q7:SV,(Value.agg (q'.val S))=.agg (q2q7.val S)/\q2q7.Is U7 (λb=>wr.heap.size<=b/\b<U7.heap.size/\b≠U3.heap.size) S:=⟨k7q7.ext,(k7q7.blk _ rfl).2.1,(k7q7.blk _ rfl).1,q',rfl,hq8⟩
         exact key (U3.heap.size) (.slice (some ⟨wr.heap.size,0,none⟩) 0 0) (.slice A2 n3 c2) (.slice A3q7 (n3+n4) c3) _ _ F
       ·
        refine dT ?_;refine Ig (λV=>TwS wr V A2 n3 c2 L (λg=>g=U2.heap.size)) (by first|exact k2q7.al|exact k2q7.al.drew|exact k2q7.drew.al) (λU8 k8q7=>?_);refine ao ?_;refine aB rfl (λK hK=>?_) rfl;rw[if_pos (by rfl)];refine k8q7.app (.tmp 59) (.tmp 60) (by rfl) (HLq7.o.2.c8 k8q7.ext.ext k8q7.ext.size) (by rfl) (by rfl) ad ?_;intro A9q7 c9q7 U9 k9q7 f9 j9q7;refine dq hK (f9) ?_;clear hK K;refine ao ?_;refine aB rfl (λK hK=>?_) rfl;go_simp;refine(HRN.o U9 A9q7 c9q7 k9q7.ext k9q7.row).mono ?_;rintro e U10 ⟨q',rfl,hq',hE7⟩;refine dq hK ((hE7.mono λ_ h=>h.elim)) ?_;clear hK K
        iterate 3 refine tf ?_
        have k10:TwS wr U10 A9q7 (n3+n4) c9q7 (L++L2) (λg=>g=U2.heap.size):=⟨k9q7.ext.trans hE7,k9q7.row.aj hE7,λg hgq7=>⟨(k9q7.blk g hgq7).1,(k9q7.blk g hgq7).2.1.aj hE7,(k9q7.blk g hgq7).2.2⟩⟩
        have hz7:=hE7.size;have hz8:=k10.ext.size;have hz9:=k9q7.ext.size;have hgl:=(k9q7.blk _ rfl).2.1.lt;have hq8:q'.Is U10 (λb=>wr.heap.size<=b/\b<U10.heap.size/\b≠U2.heap.size) S:=hq'.mono λb hbq7=>by have:=k9q7.ext.size;omega
        have F:Ext wr U10/\aq U10 (U2.heap.size) 40 #[.slice none 0 0,.slice none 0 0,.slice none 0 0,.int .i64 0]/\wr.heap.size<=U2.heap.size/\∃q2q7:SV,(Value.agg (q'.val S))=.agg (q2q7.val S)/\q2q7.Is U10 (λb=>wr.heap.size<=b/\b<U10.heap.size/\b≠U2.heap.size) S:=⟨k10.ext,(k10.blk _ rfl).2.1,(k10.blk _ rfl).1,q',rfl,hq8⟩
        exact key (U2.heap.size) (.slice (some ⟨wr.heap.size,0,none⟩) 0 0) (.slice A2 n3 c2) (.slice A9q7 (n3+n4) c9q7) _ _ F
      ·
       refine dT ?_;refine Ig (λV=>TwS wr V (some ⟨wr.heap.size,0,none⟩) 0 0 [] (λg=>g=U1.heap.size)) (by first|exact k1q7.al|exact k1q7.al.drew|exact k1q7.drew.al) (λU11 k11=>?_);refine ao ?_;refine aB rfl (λK hK=>?_) rfl;rw[if_pos (by rfl)];refine k11.app (.tmp 57) (.tmp 58) (by rfl) (HLq7.o.1.c8 k11.ext.ext k11.ext.size) (by rfl) (by rfl) ad ?_;intro A12 c12 U12 k12 f12 j12;simp only[Nat.zero_add,List.nil_append] at k12 j12 ⊢;refine dq hK (f12) ?_;clear hK K;refine ao ?_;refine aB rfl (λK hK=>?_) rfl;rw[if_pos (by rfl)];refine k12.app (.tmp 59) (.tmp 60) (by rfl) (HLq7.o.2.c8 k12.ext.ext k12.ext.size) (by rfl) (by rfl) ad ?_;intro A13 c13 U13 k13 f13 j13;refine dq hK (f13) ?_;clear hK K;refine ao ?_;refine aB rfl (λK hK=>?_) rfl;go_simp;refine(HRN.o U13 A13 c13 k13.ext k13.row).mono ?_;rintro e U14 ⟨q',rfl,hq',hE7⟩;refine dq hK ((hE7.mono λ_ h=>h.elim)) ?_;clear hK K
       iterate 3 refine tf ?_
       have k14:TwS wr U14 A13 (n3+n4) c13 (L++L2) (λg=>g=U1.heap.size):=⟨k13.ext.trans hE7,k13.row.aj hE7,λg hgq7=>⟨(k13.blk g hgq7).1,(k13.blk g hgq7).2.1.aj hE7,(k13.blk g hgq7).2.2⟩⟩
       have hz7:=hE7.size;have hz8:=k14.ext.size;have hz9:=k13.ext.size;have hgl:=(k13.blk _ rfl).2.1.lt;have hq8:q'.Is U14 (λb=>wr.heap.size<=b/\b<U14.heap.size/\b≠U1.heap.size) S:=hq'.mono λb hbq7=>by have:=k13.ext.size;omega
       have F:Ext wr U14/\aq U14 (U1.heap.size) 40 #[.slice none 0 0,.slice none 0 0,.slice none 0 0,.int .i64 0]/\wr.heap.size<=U1.heap.size/\∃q2q7:SV,(Value.agg (q'.val S))=.agg (q2q7.val S)/\q2q7.Is U14 (λb=>wr.heap.size<=b/\b<U14.heap.size/\b≠U1.heap.size) S:=⟨k14.ext,(k14.blk _ rfl).2.1,(k14.blk _ rfl).1,q',rfl,hq8⟩
       exact key (U1.heap.size) (.slice (some ⟨wr.heap.size,0,none⟩) 0 0) (.slice A12 n3 c12) (.slice A13 (n3+n4) c13) _ _ F
     ·
      refine dT ?_;refine Ig (λV=>TwS wr V none 0 0 [] (λg=>g=wr.heap.size)) (by first|exact k0q7.al|exact k0q7.al.drew|exact k0q7.drew.al) (λU15 k15=>?_);refine ao ?_;refine dT ?_;refine Ig (λV=>TwS wr V (some ⟨U15.heap.size,0,none⟩) 0 0 [] (λg=>g=wr.heap.size)) (by first|exact k15.lit|exact k15.lit.drew|exact k15.drew.lit) (λU16 k16=>?_);refine ao ?_;refine aB rfl (λK hK=>?_) rfl;rw[if_pos (by rfl)];refine k16.app (.tmp 57) (.tmp 58) (by rfl) (HLq7.o.1.c8 k16.ext.ext k16.ext.size) (by rfl) (by rfl) ad ?_;intro A17 c17 U17 k17 f17 j17;simp only[Nat.zero_add,List.nil_append] at k17 j17 ⊢;refine dq hK (f17) ?_;clear hK K;refine ao ?_;refine aB rfl (λK hK=>?_) rfl;rw[if_pos (by rfl)];refine k17.app (.tmp 59) (.tmp 60) (by rfl) (HLq7.o.2.c8 k17.ext.ext k17.ext.size) (by rfl) (by rfl) ad ?_;intro A18 c18 U18 k18 f18 j18;refine dq hK (f18) ?_;clear hK K;refine ao ?_;refine aB rfl (λK hK=>?_) rfl;go_simp;refine(HRN.o U18 A18 c18 k18.ext k18.row).mono ?_;rintro e U19 ⟨q',rfl,hq',hE7⟩;refine dq hK ((hE7.mono λ_ h=>h.elim)) ?_;clear hK K
      iterate 3 refine tf ?_
      have k19:TwS wr U19 A18 (n3+n4) c18 (L++L2) (λg=>g=wr.heap.size):=⟨k18.ext.trans hE7,k18.row.aj hE7,λg hgq7=>⟨(k18.blk g hgq7).1,(k18.blk g hgq7).2.1.aj hE7,(k18.blk g hgq7).2.2⟩⟩
      have hz7:=hE7.size;have hz8:=k19.ext.size;have hz9:=k18.ext.size;have hgl:=(k18.blk _ rfl).2.1.lt;have hq8:q'.Is U19 (λb=>wr.heap.size<=b/\b<U19.heap.size/\b≠wr.heap.size) S:=hq'.mono λb hbq7=>by have:=k18.ext.size;omega
      have F:Ext wr U19/\aq U19 (wr.heap.size) 40 #[.slice none 0 0,.slice none 0 0,.slice none 0 0,.int .i64 0]/\wr.heap.size<=wr.heap.size/\∃q2q7:SV,(Value.agg (q'.val S))=.agg (q2q7.val S)/\q2q7.Is U19 (λb=>wr.heap.size<=b/\b<U19.heap.size/\b≠wr.heap.size) S:=⟨k19.ext,(k19.blk _ rfl).2.1,(k19.blk _ rfl).1,q',rfl,hq8⟩
      exact key (wr.heap.size) (.slice (some ⟨U15.heap.size,0,none⟩) 0 0) (.slice A17 n3 c17) (.slice A18 (n3+n4) c18) _ _ F
   case KM=>
    rintro gxq7 Y1 Y2 Y3 Y WV ⟨hE4,hBx,hgx,⟨SC,cmq7,cdq7,TC,tm2,td2,HCq7,hm2,hd2⟩,rfl,hq4⟩;dsimp only[SV.val];obtain⟨y0q7,y0f,y0l⟩:=hBx.two;clear x0q7 x0f x0w;refine ao ?_;refine bQ rfl (λK hK=>?_) rfl;go_simp;refine dP hK ?_;clear hK K;refine tf ?_;refine b9 ?_;generalize hX:World.setCell _ _ _=Z;obtain⟨hBZ,hEZ,hFZ⟩:=bw (w:=wr) [.slice SC cmq7 cdq7,.slice TC tm2 td2,.slice HCq7 hm2 hd2,.int .i64 S.fault] (by rfl) hBx hE4 hgx hX;have hqZ:(⟨SC,cmq7,cdq7,TC,tm2,td2,HCq7,hm2,hd2⟩:SV).Ok Z S:=(hq4.al λb hbq7=>hFZ.block b hbq7.2.1 hbq7.2.2).ok λb hbq7=>by have:=hFZ.size;have:=hbq7.2.1;omega
    have hBs:=HRq7.o.1.aj hEZ;have HZq7:=ae (And.intro hqZ (And.intro hEZ ((HRq7.o.2.1.ok λb hbq7=>hbq7.2.1).on hEZ)));obtain⟨y0q7,y0f,y0l⟩:=hBZ.two;obtain⟨g0q7,g0f,g0l⟩:=hBs.two;clear hX hBx hE4 hq4 hFZ hEZ hqZ hBZ hBs;have qzq7:((M:Int) == (M:Int))=true:=by simp
    go_wp2_with(fail);refine(sameE S ⟨SB,sm,sdq7,TB,tmq7,tdq7,HBq7,hm,hd⟩ ⟨SC,cmq7,cdq7,TC,tm2,td2,HCq7,hm2,hd2⟩ Z HZq7.o.2.2 HZq7.o.1 (HRq7.o.2.2.2.small H1.o.1.ok ad)).mono ?_;rintro e w8q7 ⟨rfl,hE8⟩;have H8q7:=ae hE8;clear hE8 y0q7 y0f y0l g0q7 g0f g0l;go_wp2_with(fail);refine(awake10 w8q7).mono ?_;rintro e w9q7 ⟨rfl,hE9⟩;go_wp2_with(fail);go_ret;exact⟨rfl,Fr.ext (((((HXq7.o.2.1.trans H4q7.o.2.1).trans HRq7.o.2.2.1).trans HZq7.o.2.1).trans H8q7.o).trans hE9)⟩
end Go.Proofs.YtkhnkojkplbioaaGreat

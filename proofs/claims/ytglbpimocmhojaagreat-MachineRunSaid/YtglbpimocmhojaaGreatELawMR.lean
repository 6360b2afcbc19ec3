/- The law MachineRun, walked. No condition but the fx of slices. -/
import Derived.Test.YtglbpimocmhojaaGreatQ49
import Derived.Test.YtglbpimocmhojaaGreatQ31
import Derived.Test.YtglbpimocmhojaaGreatQ29
import Derived.Test.YtglbpimocmhojaaGreatQ24
namespace Go.Proofs.YtglbpimocmhojaaGreat
open Go.RowKit
set_option maxRecDepth 1000000
set_option linter.unusedVariables false
structure RnS(L:Nat->Prop)(W V:World)(S:aj)(Y1 Y2:Value)(c1 c2:Bool)(gAq7 gBq7:Nat)(a b:Bool):Prop where
 fbwx:∀k,W.heap.size<=k->L k
 ext:Ext W V
 fn1x:c1=true->∃q:SV,Y1=.agg (q.val S)/\q.Is V (λk=>L k/\k<V.heap.size/\(a=true->k≠gAq7)/\(b=true->k≠gBq7)) S
 fn2x:c2=true->∃q:SV,Y2=.agg (q.val S)/\q.Is V (λk=>L k/\k<V.heap.size/\(a=true->k≠gAq7)/\(b=true->k≠gBq7)) S
 fbax:a=true->W.heap.size<=gAq7/\aq V gAq7 40 #[.slice none 0 0,.slice none 0 0,.slice none 0 0,.int .i64 0]
 fbbx:b=true->W.heap.size<=gBq7/\aq V gBq7 40 #[.slice none 0 0,.slice none 0 0,.slice none 0 0,.int .i64 0]
 fnex:a=true->b=true->gAq7≠gBq7
section
variable {L:Nat->Prop} {W V V':World} {S:aj} {Y1 Y2:Value} {c1 c2:Bool} {gAq7 gBq7:Nat} {a b:Bool} {q:SV}
theorem RnS.nil(hBq7:∀k,W.heap.size<=k->L k):RnS L W W S undef undef false false 0 0 false false:=⟨hBq7,Fr.refl _ _,(λh=>by cases h),(λh=>by cases h),(λh=>by cases h),(λh=>by cases h),λh=>by cases h⟩
theorem RnS.drew(h:RnS L W V S Y1 Y2 c1 c2 gAq7 gBq7 a b):RnS L W V.drew S Y1 Y2 c1 c2 gAq7 gBq7 a b:=⟨h.fbwx,h.ext.drew,λhc=>(h.fn1x hc).imp λq hqq7=>⟨hqq7.1,hqq7.2.ak λ_ _=>rfl⟩,λhc=>(h.fn2x hc).imp λq hqq7=>⟨hqq7.1,hqq7.2.ak λ_ _=>rfl⟩,h.fbax,h.fbbx,h.fnex⟩
theorem RnS.alA(h:RnS L W V S Y1 Y2 c1 c2 gAq7 gBq7 false b):RnS L W (V.alloc (.cells #[.slice none 0 0,.slice none 0 0,.slice none 0 0,.int .i64 0] 40)) S Y1 Y2 c1 c2 V.heap.size gBq7 true b:=by
 have hEq7:Ext V (V.alloc (.cells #[.slice none 0 0,.slice none 0 0,.slice none 0 0,.int .i64 0] 40)):=(Fr.refl _ _).alloc _;have hs:=World.kH V (.cells #[.slice none 0 0,.slice none 0 0,.slice none 0 0,.int .i64 0] 40);refine⟨h.fbwx,h.ext.trans hEq7,λhc=>(h.fn1x hc).imp λq hqq7=>⟨hqq7.1,(hqq7.2.ak λk hkq7=>hEq7.block k hkq7.2.1 λh=>h).mono λk hkq7=>⟨hkq7.1,ad,λ_=>ad,hkq7.2.2.2⟩⟩,λhc=>(h.fn2x hc).imp λq hqq7=>⟨hqq7.1,(hqq7.2.ak λk hkq7=>hEq7.block k hkq7.2.1 λh=>h).mono λk hkq7=>⟨hkq7.1,ad,λ_=>ad,hkq7.2.2.2⟩⟩,λ_=>⟨h.ext.size,aq.new _ _ _⟩,λhbq7=>⟨(h.fbbx hbq7).1,(h.fbbx hbq7).2.ai hEq7⟩,λ_ hbq7=>?_⟩;have:=(h.fbbx hbq7).2.lt;omega
theorem RnS.swap(h:RnS L W V S Y1 Y2 c1 c2 gAq7 gBq7 a b):RnS L W V S Y1 Y2 c1 c2 gBq7 gAq7 b a:=
 ⟨h.fbwx,h.ext,λhc=>(h.fn1x hc).imp λq hqq7=>⟨hqq7.1,hqq7.2.mono λk hkq7=>⟨hkq7.1,hkq7.2.1,hkq7.2.2.2,hkq7.2.2.1⟩⟩,λhc=>(h.fn2x hc).imp λq hqq7=>⟨hqq7.1,hqq7.2.mono λk hkq7=>⟨hkq7.1,hkq7.2.1,hkq7.2.2.2,hkq7.2.2.1⟩⟩,h.fbbx,h.fbax,λhaq7 hbq7=>Ne.symm (h.fnex hbq7 haq7)⟩
theorem RnS.flip(h:RnS L W V S Y1 Y2 c1 c2 gAq7 gBq7 a b):RnS L W V S Y2 Y1 c2 c1 gAq7 gBq7 a b:=⟨h.fbwx,h.ext,h.fn2x,h.fn1x,h.fbax,h.fbbx,h.fnex⟩
theorem RnS.call(h:RnS L W V S Y1 Y2 false c2 gAq7 gBq7 a b){M:Nat->Prop}(hEq7:Ext V V')(hqq7:q.Is V' M S)(hM:∀k,M k->(L k/\k<V'.heap.size/\(a=true->k≠gAq7)/\(b=true->k≠gBq7))):RnS L W V' S (.agg (q.val S)) Y2 true c2 gAq7 gBq7 a b:=
 ⟨h.fbwx,h.ext.trans hEq7,λ_=>⟨q,rfl,hqq7.mono hM⟩,λhc=>(h.fn2x hc).imp λq hqq7=>⟨hqq7.1,(hqq7.2.ak λk hkq7=>hEq7.block k hkq7.2.1 λh=>h).mono λk hkq7=>⟨hkq7.1,Nat.lt_of_lt_of_le hkq7.2.1 hEq7.size,hkq7.2.2⟩⟩,
  λhaq7=>⟨(h.fbax haq7).1,(h.fbax haq7).2.ai hEq7⟩,λhbq7=>⟨(h.fbbx hbq7).1,(h.fbbx hbq7).2.ai hEq7⟩,h.fnex⟩
theorem RnS.mix(h:RnS L W V S Y1 Y2 false c2 gAq7 gBq7 a b)(hEq7:Ext V V'){P:Nat->Prop}(hqq7:q.Is V' (λk=>P k\/(V.heap.size<=k/\k<V'.heap.size)) S)(hPq7:∀k,P k->L k/\k<W.heap.size):RnS L W V' S (.agg (q.val S)) Y2 true c2 gAq7 gBq7 a b:=
 h.call hEq7 hqq7 λk hkq7=>by
  have h1q7:=h.ext.size;have h2q7:=hEq7.size;rcases hkq7 with hkq7|hkq7
  .have h3q7:=hPq7 k hkq7;exact⟨h3q7.1,ad,λhaq7=>by have:=(h.fbax haq7).1;omega,λhbq7=>by have:=(h.fbbx hbq7).1;omega⟩
  .exact⟨h.fbwx k ad,hkq7.2,λhaq7=>by have:=(h.fbax haq7).2.lt;omega,λhbq7=>by have:=(h.fbbx hbq7).2.lt;omega⟩
theorem pt_rn{P:Program}{ops:Array Oper}{Q:Exit->Act->World->Prop}{R:World->World->Prop}{tails:List Nat}{rest:PT}{ac:Act}(hC:RnS L W V S Y1 Y2 c1 c2 gAq7 gBq7 a b)(h:∀V,RnS L W V S Y1 Y2 c1 c2 gAq7 gBq7 a b->cN P ops Q R tails rest ac V):cN P ops Q R tails rest ac V:=h V hC
end
set_option maxRecDepth 1000000 in
set_option maxHeartbeats 1600000 in
theorem machineRun_any(A B:Option Addr)(n c m d:Nat)(l pkq7:List Int)(w:World)(h:cx (EF cT) 1 w w.heap.size A n l)(hp:cx (EF cT) 1 w w.heap.size B m pkq7)(hc:n<=c) :
  Calls Tryz.prog 3 #[.slice A n c,.slice B m d] w λe w'=>e=.returned (.bool true)/\Below w.heap.size w w':=by
 have H:=ae (And.intro h hp);clear h hp;go_enter Tryz.func3,Tryz.ntmps3;go_wp2_with(fail);refine(IL A n c l w H.o.1 hc).mono ?_;rintro e w1q7 ⟨u,b0q7,b1q7,b2q7,b3q7,b4,b5q7,m0q7,m1q7,m2q7,m3q7,m4q7,m5q7,d0,d1,d2,d3,d4,d5,GA,gn,gc,MA,mn,mc,PA,pn,pc,rfl,hU,_,_,_,hrep,hE1⟩;have hu1:(⟨GA,gn,gc,MA,mn,mc,PA,pn,pc⟩:UV).Ok w1q7 u:=Jz hrep λb hbq7=>hbq7.2;have H1:=ae (And.intro hU (And.intro hu1 hE1));clear hU hu1 hE1 hrep;go_upto_region 2 with(fail);generalize hX:World.alloc _ _=X;have hEX:Ext w1q7 X:=by rw[<-hX];exact(((Fr.refl _ _).alloc _).alloc _).alloc _
 have hBX:aq X (w1q7.heap.size+1) 30 #[.slice GA gn gc,.slice MA mn mc,.slice PA pn pc,.int .i64 u.main]:=by rw[<-hX];exact(aq.gz _ _ _ (by simp)).alloc _
 have hEw:=H1.o.2.2.trans hEX;have HXq7:=ae (And.intro (H1.o.2.1.on hEX) (And.intro hEw (And.intro hBX (H.o.2.c8 hEw.ext hEw.size))));obtain⟨x0q7,x0f,x0l⟩:=hBX.two;clear hX hEX hBX hEw;have HNR:=ae (And.intro (λ(V:World) (hV:Ext X V)=>Ir u V ⟨GA,gn,gc,MA,mn,mc,PA,pn,pc⟩ H1.o.1 (HXq7.o.1.on hV)) (λ(V:World) (hV:Ext X V)=>Js u V ⟨GA,gn,gc,MA,mn,mc,PA,pn,pc⟩ H1.o.1 (HXq7.o.1.on hV)));have k:RnS (λk=>X.heap.size<=k) X X (dJ u) undef undef false false 0 0 false false:=RnS.nil (λ_ h=>h)
 refine qY (λ_=>False) [6,7] (.held 0 (.held 2 (.pick [1,4,5] (λi=>bif i == 1 then .pick [3,4,5] (λi=>bif i == 3 then .pick [4,5] (λi=>bif i == 4 then .pick [5] (λ_=>.pick [6] (λ_=>.pick [7] (λ_=>.stop))) else .pick [4] (λ_=>.pick [6] (λ_=>.pick [7] (λ_=>.stop)))) else bif i == 4 then .pick [3,5] (λi=>bif i == 3 then .pick [5] (λ_=>.pick [6] (λ_=>.pick [7] (λ_=>.stop))) else .pick [3] (λ_=>.pick [6] (λ_=>.pick [7] (λ_=>.stop)))) else .pick [3,4] (λi=>bif i == 3 then .pick [4] (λ_=>.pick [6] (λ_=>.pick [7] (λ_=>.stop))) else .pick [3] (λ_=>.pick [6] (λ_=>.pick [7] (λ_=>.stop))))) else bif i == 4 then .pick [1,5] (λi=>bif i == 1 then .pick [3,5] (λi=>bif i == 3 then .pick [5] (λ_=>.pick [6] (λ_=>.pick [7] (λ_=>.stop))) else .pick [3] (λ_=>.pick [6] (λ_=>.pick [7] (λ_=>.stop)))) else .pick [1] (λ_=>.pick [3] (λ_=>.pick [6] (λ_=>.pick [7] (λ_=>.stop))))) else .pick [1,4] (λi=>bif i == 1 then .pick [3,4] (λi=>bif i == 3 then .pick [4] (λ_=>.pick [6] (λ_=>.pick [7] (λ_=>.stop))) else .pick [3] (λ_=>.pick [6] (λ_=>.pick [7] (λ_=>.stop)))) else .pick [1] (λ_=>.pick [3] (λ_=>.pick [6] (λ_=>.pick [7] (λ_=>.stop))))))))) ?_
 iterate 2 refine th ?_
 refine pt_rn k.drew ?_;intro U k;refine iL (P:=?ow) (ops:=?Hq) (Q:=?Hs) (R:=?Hu) (tails:=?HE) (rest:=.pick [6] (λ_=>.pick [7] (λ_=>.stop))) (aa:=?G3)
  (C:=λ(gAq7 gBq7:Nat) (Y1 Y2:Value) WV=>RnS (λk=>X.heap.size<=k) X WV (dJ u) Y1 Y2 true true gAq7 gBq7 true true) (λkey=>?vY) ?vR
 case vY=>
  iterate 4
   all_goals first
    | refine HG ?_ ?_ ?_
    | refine aY ?_ ?_
    | refine ao ?_
   all_goals first
    | (refine aB (i:=4) rfl (λK hK=>?_) rfl;go_simp;refine dz hK ((Fr.refl _ _).alloc _) ?_;clear hK K;refine pt_rn k.alA ?_;generalize U.heap.size=gAq7;intro U k)
    | (refine aB (i:=5) rfl (λK hK=>?_) rfl;go_simp;refine dz hK ((Fr.refl _ _).alloc _) ?_;clear hK K;refine pt_rn k.swap.alA.swap ?_;generalize U.heap.size=gBq7;intro U k)
    | (refine aB (i:=1) rfl (λK hK=>?_) rfl;go_simp;refine(HNR.o.1 U k.ext).mono ?_;rintro e U2 ⟨q',rfl,hq',hE2⟩;refine hK _ _ hE2 ?_;clear hK K;(try simp only[PU]);have k:=k.mix hE2 hq' (λ_ h=>h.elim);clear hE2;refine pt_rn k ?_;generalize (Value.agg (q'.val (dJ u)))=Y1;intro U k)
    | (refine aB (i:=3) rfl (λK hK=>?_) rfl;go_simp;refine(HNR.o.2 U k.ext).mono ?_;rintro e U2 ⟨q',rfl,hq',hE2⟩;refine hK _ _ hE2 ?_;clear hK K;(try simp only[PU]);have k:=(k.flip.mix hE2 hq' (λ_ h=>h.elim)).flip;clear hE2;refine pt_rn k ?_;generalize (Value.agg (q'.val (dJ u)))=Y2;intro U k)
  all_goals exact key gAq7 gBq7 Y1 Y2 U k
 case vR=>
  rintro gAq7 gBq7 Y1 Y2 V ⟨-,hEq7,h1q7,h2q7,haq7,hbq7,hne⟩;obtain⟨⟨SA,snq7,scq7,TA,tn,tc,HA,hn,hc2⟩,rfl,hq1⟩:=h1q7 rfl;obtain⟨⟨SB,sm,sdq7,TB,tmq7,tdq7,HBq7,hm,hd⟩,rfl,hq2⟩:=h2q7 rfl;have hAq7:=haq7 rfl;have hBq7:=hbq7 rfl;have HNE:=ae (hne rfl rfl);clear h1q7 h2q7 haq7 hbq7 k hne;dsimp only[SV.val];obtain⟨y0q7,y0f,y0l⟩:=hAq7.2.two;clear x0q7 x0f;refine ao ?_;refine bM rfl (λK hK=>?_) rfl;go_simp;generalize hX1:World.setCell _ _ _=V1;obtain⟨hB1,hF1⟩:=ke 0 [.slice SA snq7 scq7,.slice TA tn tc,.slice HA hn hc2,.int .i64 (dJ u).fault] hAq7.2 hX1;have hB1:aq V1 gAq7 40 ((⟨SA,snq7,scq7,TA,tn,tc,HA,hn,hc2⟩:SV).val (dJ u)):=hB1;have hBb:=hBq7.2.on hF1 (Ne.symm HNE.o);clear y0q7 y0f y0l;obtain⟨y0q7,y0f,y0l⟩:=hBb.two;refine dO hK ?_;clear hK K;refine ao ?_;refine bM rfl (λK hK=>?_) rfl;go_simp;generalize hX2:World.setCell _ _ _=V2;obtain⟨hB2,hF2⟩:=ke 0 [.slice SB sm sdq7,.slice TB tmq7 tdq7,.slice HBq7 hm hd,.int .i64 (dJ u).fault] hBb hX2;have hB2:aq V2 gBq7 40 ((⟨SB,sm,sdq7,TB,tmq7,tdq7,HBq7,hm,hd⟩:SV).val (dJ u)):=hB2;refine dO hK ?_;clear hK K;refine b3 ?_;have hF:Fr (λb=>b=gAq7\/b=gBq7) V V2:=Fr.trans (hF1.mono λ_ h=>.inl h) (hF2.mono λ_ h=>.inr h);have hEX2:Ext X V2:=Fr.low (M:=λb=>b=gAq7\/b=gBq7) (Fr.trans (hEq7.mono λ_ h=>h.elim) hF) λb hbq7=>by rcases hbq7 with hbq7|hbq7<;>omega
  have hI:∀q:SV,q.Is V (λk=>X.heap.size<=k/\k<V.heap.size/\(true=true->k≠gAq7)/\(true=true->k≠gBq7)) (dJ u)->q.Is V2 (λk=>X.heap.size<=k/\k<V2.heap.size/\k≠gAq7/\k≠gBq7) (dJ u):=λq hqq7=>(hqq7.ak λk hkq7=>hF.block k hkq7.2.1 λh=>h.elim (hkq7.2.2.1 rfl) (hkq7.2.2.2 rfl)).mono λk hkq7=>⟨hkq7.1,Nat.lt_of_lt_of_le hkq7.2.1 hF.size,hkq7.2.2.1 rfl,hkq7.2.2.2 rfl⟩
  have HVq7:=ae (And.intro (hB1.on hF2 HNE.o) (And.intro hB2 (And.intro (hI _ hq1) (And.intro (hI _ hq2) hEX2))));have hgA:=hAq7.1;have hgB:=hBq7.1;have hgl:gAq7<V2.heap.size/\gBq7<V2.heap.size:=⟨by have:=hAq7.2.lt;have:=hF.size;omega,by have:=hBq7.2.lt;have:=hF.size;omega⟩
  have hgAl:=hgl.1;have hgBl:=hgl.2;clear hX1 hX2 hB1 hB2 hF1 hF2 hF hBb hAq7 hBq7 hEq7 hEX2 hI hq1 hq2 y0q7 y0f y0l hgl;go_wp2_with(fail);refine(yw B m d 60 pkq7 V2 (HXq7.o.2.2.2.c8 HVq7.o.2.2.2.2.ext HVq7.o.2.2.2.2.size) ad).mono ?_;rintro r W0 ⟨A3q7,c3,rfl,hc3,hl3,hb3,hlo3⟩;have hlen3:(bT pkq7 60).length<=60:=by unfold bT;rw[List.length_map,List.length_take];omega
  generalize bT pkq7 60=L at *;generalize hn3:L.length=n3 at *;have hE0:Ext V2 W0:=ra hb3;have hs0:=hE0.size;have hI:∀q:SV,q.Is V2 (λk=>X.heap.size<=k/\k<V2.heap.size/\k≠gAq7/\k≠gBq7) (dJ u)->q.Is W0 (λk=>X.heap.size<=k/\k<W0.heap.size/\k≠gAq7/\k≠gBq7) (dJ u):=λq hqq7=>(hqq7.ak λk hkq7=>hE0.block k hkq7.2.1 λh=>h).mono λk hkq7=>⟨hkq7.1,ad,hkq7.2.2⟩
  have HWq7:=ae (And.intro (show cx (EF cT) 1 W0 W0.heap.size A3q7 n3 L from hl3) (And.intro (HVq7.o.2.2.2.2.trans hE0) (And.intro hn3 (And.intro (HXq7.o.2.2.1.ai (HVq7.o.2.2.2.2.trans hE0)) (And.intro (HVq7.o.1.ai hE0) (And.intro (HVq7.o.2.1.ai hE0) (And.intro (hI _ HVq7.o.2.2.1) (And.intro (hI _ HVq7.o.2.2.2.1) hlo3))))))));have hX0:=HWq7.o.2.1.size;clear hl3 hb3 hn3 hE0 hI hlo3;go_wp2_with(fail);go_loopw [11] (λivq7 wr=>∃(i:Nat) (qaq7 qbq7:SV),ivq7=.int .i64 i/\i<=n3/\Fr (λb=>b=gAq7\/b=gBq7) W0 wr/\aq wr gAq7 40 (qaq7.val (iP u (dJ u) (L.take i)))/\aq wr gBq7 40 (qbq7.val (iP u (dJ u) (L.take i)))/\qaq7.Is wr (λk=>X.heap.size<=k/\k<wr.heap.size/\k≠gAq7/\k≠gBq7) (iP u (dJ u) (L.take i))/\qbq7.Is wr (λk=>X.heap.size<=k/\k<wr.heap.size/\k≠gAq7/\k≠gBq7) (iP u (dJ u) (L.take i))) (λivq7 _=>n3 - (intOf ivq7).toNat)
  case atStart=>exact⟨0,⟨SA,snq7,scq7,TA,tn,tc,HA,hn,hc2⟩,⟨SB,sm,sdq7,TB,tmq7,tdq7,HBq7,hm,hd⟩,rfl,ad,Fr.refl _ _,HWq7.o.2.2.2.2.1,HWq7.o.2.2.2.2.2.1,HWq7.o.2.2.2.2.2.2.1,HWq7.o.2.2.2.2.2.2.2.1⟩
  case round=>
   obtain⟨i,⟨SA,snq7,scq7,TA,tn,tc,HA,hn,hc2⟩,⟨SB,sm,sdq7,TB,tmq7,tdq7,HBq7,hm,hd⟩,rfl,hiq7,hF,hBA,hBB,hIA,hIB⟩:=hrel;have m0:=hF.size;have hEr:Ext X wr:=Fr.low (M:=λb=>b=gAq7\/b=gBq7) (Fr.trans (HWq7.o.2.1.mono λ_ h=>h.elim) hF) λb hbq7=>by rcases hbq7 with hbq7|hbq7<;>omega
   have hok:=wx H1.o.1.ok (L.take i) 0 (dJ u) (oI H1.o.1.ok);rw[List.length_take] at hok;by_cases hlt:i<n3
   .have hsn:∀t,L[i]?=some t->iP u (dJ u) (L.take (i+1))=(b9 u (iP u (dJ u) (L.take i)) t).1:=λt ht=>by rw[aZ ht,uu];rfl
    obtain⟨eb,eo,t,rfl,heb,hx,hcx⟩:=HWq7.o.1.int hlt;have helo:V2.heap.size<=eb:=HWq7.o.2.2.2.2.2.2.2.2 eb (by simp[Value.ownBlock]);have hebw:eb<wr.heap.size:=ad;have hcw:=(hF.cell (j:=eo+i) heb (by intro h;rcases h with h|h<;>omega)).trans hcx;have hs2:=hsn t hx;have hokk:aV u 60 (iP u (dJ u) (L.take i)):=hok.mono ad;generalize iP u (dJ u) (L.take i)=S at *;have hex:∃(bb:Bool) (T:aj),b9 u S t=(T,bb):=⟨_,_,rfl⟩
    obtain⟨bb,T,hbT⟩:=hex;have hst:∀V,Ext wr V->Calls Tryz.prog 9 #[.agg ((⟨GA,gn,gc,MA,mn,mc,PA,pn,pc⟩:UV).val u),.agg ((⟨SA,snq7,scq7,TA,tn,tc,HA,hn,hc2⟩:SV).val S),.int .i64 t] V (cR mG V T bb):=by
     intro V hV;have:=GH u S t 60 V ⟨GA,gn,gc,MA,mn,mc,PA,pn,pc⟩ ⟨SA,snq7,scq7,TA,tn,tc,HA,hn,hc2⟩ H1.o.1 hokk ad (HXq7.o.1.on (hEr.trans hV)) ((hIA.ok λb hbq7=>hbq7.2.1).on hV)
     rwa [hbT] at this
    have hsr:∀V,Ext wr V->Calls Tryz.prog 10 #[.agg ((⟨GA,gn,gc,MA,mn,mc,PA,pn,pc⟩:UV).val u),.agg ((⟨SB,sm,sdq7,TB,tmq7,tdq7,HBq7,hm,hd⟩:SV).val S),.int .i64 t] V (cR (λk=>X.heap.size<=k/\k<wr.heap.size/\k≠gAq7/\k≠gBq7) V T bb):=by
     intro V hV;have:=GJ u S t 60 (λk=>X.heap.size<=k/\k<wr.heap.size/\k≠gAq7/\k≠gBq7) V ⟨GA,gn,gc,MA,mn,mc,PA,pn,pc⟩ ⟨SB,sm,sdq7,TB,tmq7,tdq7,HBq7,hm,hd⟩ H1.o.1 hokk ad (HXq7.o.1.on (hEr.trans hV)) (hIB.GD (λb hbq7=>hbq7.2.1) hV) (λb hbq7=>by have:=hbq7.2.1;have:=hV.size;omega)
     rwa [hbT] at this
    have hTo:aV u 61 T:=by
     have:=uD (t:=t) H1.o.1.ok hokk
     rwa [hbT] at this
    rw[hbT] at hs2;have hXr:=hEr.size;have HSq7:=ae (And.intro hst (And.intro hsr (And.intro hTo (And.intro hs2 (And.intro hF (And.intro hBA (And.intro hBB hEr)))))));obtain⟨x0q7,x0f,x0l⟩:=(HWq7.o.2.2.2.1.on hF (by intro h;rcases h with h|h<;>omega)).two;obtain⟨y0q7,y0f,y0l⟩:=hBA.two;have hg1:gAq7<wr.heap.size:=hBA.lt;have hg2:gBq7<wr.heap.size:=hBB.lt;clear hst hsr hTo hs2 hbT hF hBA hBB hIA hIB hEr hok hokk hsn hx hcx heb;go_upto_region 7 with(fail);have k:RnS (λk=>wr.heap.size<=k) wr wr T undef undef false false 0 0 false false:=RnS.nil (λk hkq7=>ad);refine qY (λ_=>False) [11] (.held 0 (.held 1 (.free 2 (.free 3 (.free 4 (.held 5 (.pick [6,10] (λi=>bif i == 6 then .free 7 (.free 8 (.free 9 (.pick [10] (λ_=>.pick [11] (λ_=>.free 12 (.stop)))))) else .pick [6] (λ_=>.free 7 (.free 8 (.free 9 (.pick [11] (λ_=>.free 12 (.stop)))))))))))))) ?_
    iterate 2 refine th ?_
    iterate 3 refine tf ?_
    refine th ?_;refine pt_rn k.drew ?_;intro U k;refine l8 (P:=?Pa1) (ops:=?oa1) (Q:=?qa1) (R:=?ra1) (tails:=?ta1) (rest:=.pick [11] (λ_=>.free 12 (.stop))) (aa:=?Kn)
     (C:=λ(gNq7:Nat) (Y1:Value) WV=>RnS (λk=>wr.heap.size<=k) wr WV T Y1 undef true false gNq7 0 true false) (λkey=>?ma1) ?ka1
    case ma1=>
     iterate 2
      all_goals first
       | refine HG ?_ ?_ ?_
       | refine aY ?_ ?_
       | refine ao ?_
      all_goals first
       | (refine aB (i:=10) rfl (λK hK=>?_) rfl;go_simp;refine dz hK ((Fr.refl _ _).alloc _) ?_;clear hK K;refine pt_rn k.alA ?_;generalize U.heap.size=gNq7;intro U k)
       | (refine aB (i:=6) rfl (λK hK=>?_) rfl;go_simp;refine(HSq7.o.1 U k.ext).mono ?_;rintro e U2 ⟨q',rfl,hq',hE2⟩;refine hK _ _ hE2 ?_;clear hK K;(try simp only[PU]);(iterate 3 refine tf ?_);have k:=k.mix hE2 hq' (λ_ h=>h.elim);clear hE2;refine pt_rn k ?_;generalize (Value.agg (q'.val T))=Y1;intro U k)
     all_goals exact key gNq7 Y1 U k
    case ka1=>
     rintro gCq7 Y1 V ⟨-,hEq7,h1q7,-,haq7,-,-⟩;obtain⟨⟨SC,cmq7,cdq7,TC,tm2,td2,HCq7,hm2,hd2⟩,rfl,hq1⟩:=h1q7 rfl;have hC:=haq7 rfl;clear h1q7 haq7 k;dsimp only[SV.val];obtain⟨z0q7,z0f,z0l⟩:=hC.2.two;refine ao ?_;refine bM rfl (λK hK=>?_) rfl;go_simp;refine dO hK ?_;clear hK K;refine tf ?_;refine b3 ?_;generalize hZq7:World.setCell _ _ _=Z;obtain⟨hBZ,hEZ,hFZ⟩:=bA (w:=wr) [.slice SC cmq7 cdq7,.slice TC tm2 td2,.slice HCq7 hm2 hd2,.int .i64 T.fault] (by rfl) hC.2 hEq7 hC.1 hZq7;have hqZ:(⟨SC,cmq7,cdq7,TC,tm2,td2,HCq7,hm2,hd2⟩:SV).Is Z (λk=>wr.heap.size<=k/\k<Z.heap.size/\k≠gCq7) T:=(hq1.ak λk hkq7=>hFZ.block k hkq7.2.1 (hkq7.2.2.1 rfl)).mono λk hkq7=>⟨hkq7.1,Nat.lt_of_lt_of_le hkq7.2.1 hFZ.size,hkq7.2.2.1 rfl⟩
     have hgC:=hC.1;have hgCl:=hBZ.lt;have HZq7:=ae (And.intro hEZ (And.intro hqZ hBZ));have hebz:eb<Z.heap.size:=Nat.lt_of_lt_of_le hebw hEZ.size;have hcz:=(hEZ.cell (j:=eo+i) hebw (λh=>h)).trans hcw;have hZs:=hEZ.size;clear x0q7 x0f x0l y0q7 y0f y0l z0q7 z0f z0l hC hq1 hEq7 hZq7 hBZ hFZ hqZ;obtain⟨x0q7,x0f,x0l⟩:=((HWq7.o.2.2.2.1.on HSq7.o.2.2.2.2.1 (by intro h;rcases h with h|h<;>omega)).ai hEZ).two;obtain⟨y0q7,y0f,y0l⟩:=(HSq7.o.2.2.2.2.2.2.1.ai hEZ).two;clear hEZ hcw;go_upto_region 8 with(fail);have k:RnS (λk=>X.heap.size<=k/\k≠gAq7/\k≠gBq7) Z Z T undef undef false false 0 0 false false:=RnS.nil (λk hkq7=>ad);refine qY (λ_=>False) [11] (.held 0 (.held 1 (.free 2 (.free 3 (.free 4 (.held 5 (.pick [6,10] (λi=>bif i == 6 then .free 7 (.free 8 (.free 9 (.pick [10] (λ_=>.pick [11] (λ_=>.free 12 (.stop)))))) else .pick [6] (λ_=>.free 7 (.free 8 (.free 9 (.pick [11] (λ_=>.free 12 (.stop)))))))))))))) ?_
     iterate 2 refine th ?_
     iterate 3 refine tf ?_
     refine th ?_;refine pt_rn k.drew ?_;intro U k;refine l8 (P:=?Pb1) (ops:=?ob1) (Q:=?qb1) (R:=?rb1) (tails:=?tb1) (rest:=.pick [11] (λ_=>.free 12 (.stop))) (aa:=?ab1)
      (C:=λ(gNq7:Nat) (Y1:Value) WV=>RnS (λk=>X.heap.size<=k/\k≠gAq7/\k≠gBq7) Z WV T Y1 undef true false gNq7 0 true false) (λkey=>?mb1) ?kb1
     case mb1=>
      iterate 2
       all_goals first
        | refine HG ?_ ?_ ?_
        | refine aY ?_ ?_
        | refine ao ?_
       all_goals first
        | (refine aB (i:=10) rfl (λK hK=>?_) rfl;go_simp;refine dz hK ((Fr.refl _ _).alloc _) ?_;clear hK K;refine pt_rn k.alA ?_;generalize U.heap.size=gNq7;intro U k)
        | (refine aB (i:=6) rfl (λK hK=>?_) rfl;go_simp;refine(HSq7.o.2.1 U (HZq7.o.1.trans k.ext)).mono ?_;rintro e U2 ⟨q',rfl,hq',hE2⟩;refine hK _ _ hE2 ?_;clear hK K;(try simp only[PU]);(iterate 3 refine tf ?_);have k:=k.mix hE2 hq' (λk hkq7=>⟨⟨hkq7.1,hkq7.2.2⟩,Nat.lt_of_lt_of_le hkq7.2.1 HZq7.o.1.size⟩);clear hE2;refine pt_rn k ?_;generalize (Value.agg (q'.val T))=Y1;intro U k)
      all_goals exact key gNq7 Y1 U k
     case kb1=>
      rintro gDq7 Y1 V ⟨-,hEq7,h1q7,-,haq7,-,-⟩;obtain⟨⟨SD,dmq7,ddq7,TD,tm3,td3,HDq7,hm3,hd3⟩,rfl,hq1⟩:=h1q7 rfl;have hD:=haq7 rfl;clear h1q7 haq7 k;dsimp only[SV.val];obtain⟨z0q7,z0f,z0l⟩:=hD.2.two;refine ao ?_;refine bM rfl (λK hK=>?_) rfl;go_simp;refine dO hK ?_;clear hK K;refine tf ?_;refine b3 ?_;generalize hQ:World.setCell _ _ _=Q;obtain⟨hBQ,hEQ,hFQ⟩:=bA (w:=Z) [.slice SD dmq7 ddq7,.slice TD tm3 td3,.slice HDq7 hm3 hd3,.int .i64 T.fault] (by rfl) hD.2 hEq7 hD.1 hQ;have hqQ:(⟨SD,dmq7,ddq7,TD,tm3,td3,HDq7,hm3,hd3⟩:SV).Is Q (λk=>X.heap.size<=k/\k<Q.heap.size/\k≠gAq7/\k≠gBq7) T:=(hq1.ak λk hkq7=>hFQ.block k hkq7.2.1 (hkq7.2.2.1 rfl)).mono λk hkq7=>by
       have:=hFQ.size;exact⟨hkq7.1.1,by have:=hkq7.2.1;omega,hkq7.1.2⟩
      have hgD:=hD.1;have hgDl:=hBQ.lt;have HQq7:=ae (And.intro hEQ (And.intro hqQ hBQ));have hQs:=hEQ.size;have hqC:=(HZq7.o.2.1.ok λk hkq7=>hkq7.2.1).on hEQ;have hqD:=HQq7.o.2.1.ok λk hkq7=>hkq7.2.1;have HUq7:=ae ((HWq7.o.2.2.2.1.on HSq7.o.2.2.2.2.1 (by intro h;rcases h with h|h<;>omega)).ai (HZq7.o.1.trans hEQ));have hXQ:=HSq7.o.2.2.2.2.2.2.2.trans (HZq7.o.1.trans hEQ);have hsmT:=HSq7.o.2.2.1.small H1.o.1.ok ad;have HOK:=ae (And.intro hqC (And.intro hqD (And.intro hsmT (HXq7.o.1.on hXQ))));clear x0q7 x0f x0l y0q7 y0f y0l z0q7 z0f z0l hD hq1 hEq7 hQ hBQ hFQ hqQ hqC hqD hcz hXQ hsmT;obtain⟨x0q7,x0f,x0l⟩:=HUq7.o.two;obtain⟨y0q7,y0f,y0l⟩:=(HZq7.o.2.2.ai hEQ).two;obtain⟨z0q7,z0f,z0l⟩:=HQq7.o.2.2.two;clear hEQ;have hbb:(bb != bb)=false:=by simp
      go_wp2_with(fail);refine(IE T ⟨SC,cmq7,cdq7,TC,tm2,td2,HCq7,hm2,hd2⟩ ⟨SD,dmq7,ddq7,TD,tm3,td3,HDq7,hm3,hd3⟩ Q HOK.o.1 HOK.o.2.1 HOK.o.2.2.1).mono ?_;rintro e w6q7 ⟨rfl,hE6⟩;have H6q7:=ae hE6;clear x0q7 x0f x0l y0q7 y0f y0l z0q7 z0f z0l;obtain⟨x0q7,x0f,x0l⟩:=(HUq7.o.ai hE6).two;obtain⟨y0q7,y0f,y0l⟩:=((HZq7.o.2.2.ai HQq7.o.1).ai hE6).two;clear hE6;go_wp2_with(fail);refine(mvalid_ok u T 61 ⟨GA,gn,gc,MA,mn,mc,PA,pn,pc⟩ ⟨SC,cmq7,cdq7,TC,tm2,td2,HCq7,hm2,hd2⟩ w6q7 H1.o.1 HSq7.o.2.2.1 ad (HOK.o.2.2.2.on H6q7.o) (HOK.o.1.on H6q7.o)).mono ?_;rintro e w7q7 ⟨rfl,hE7⟩;have H7q7:=ae (H6q7.o.trans hE7);clear hE7 x0q7 x0f x0l y0q7 y0f y0l;go_upto_region 11 with(fail);have hnC:gCq7≠gAq7:=ad;have hnD:gDq7≠gAq7:=ad;refine eK (λb=>b=gAq7) [(0,0),(1,0),(2,1),(3,2)] ?_;refine l4 (λV=>Ext Q V) (H7q7.o.drew) (λV8 h8q7=>?_);have h8s:=h8q7.size;have hBA:=(HSq7.o.2.2.2.2.2.1.ai (HZq7.o.1.trans HQq7.o.1)).ai h8q7;have hBB:=(HSq7.o.2.2.2.2.2.2.1.ai (HZq7.o.1.trans HQq7.o.1)).ai h8q7;obtain⟨x0q7,x0f,x0l⟩:=hBA.two;obtain⟨y0q7,y0f,y0l⟩:=((HZq7.o.2.2.ai HQq7.o.1).ai h8q7).two;obtain⟨z0q7,z0f,z0l⟩:=(HQq7.o.2.2.ai h8q7).two
      iterate 2 refine J8 ?_
      refine aI rfl (λK hK=>?_);go_simp;generalize hP1:World.setCell _ _ _=P1;obtain⟨hB1,hF1⟩:=ke 0 [.slice SC cmq7 cdq7,.slice TC tm2 td2,.slice HCq7 hm2 hd2,.int .i64 T.fault] hBA hP1;have hB1:aq P1 gAq7 40 ((⟨SC,cmq7,cdq7,TC,tm2,td2,HCq7,hm2,hd2⟩:SV).val T):=hB1;refine dz hK (hF1) ?_;clear hK K;have hBb:=hBB.on hF1 (Ne.symm HNE.o);clear x0q7 x0f x0l y0q7 y0f y0l z0q7 z0f z0l;obtain⟨z0q7,z0f,z0l⟩:=hBb.two;refine ax rfl (λK hK=>?_);go_simp;generalize hP2:World.setCell _ _ _=P2;obtain⟨hB2,hF2⟩:=ke 0 [.slice SD dmq7 ddq7,.slice TD tm3 td3,.slice HDq7 hm3 hd3,.int .i64 T.fault] hBb hP2;have hB2:aq P2 gBq7 40 ((⟨SD,dmq7,ddq7,TD,tm3,td3,HDq7,hm3,hd3⟩:SV).val T):=hB2;refine dO hK ?_;clear hK K;refine aE ?_;have hFF:Fr (λb=>b=gAq7\/b=gBq7) V8 P2:=Fr.trans (hF1.mono λ_ h=>.inl h) (hF2.mono λ_ h=>.inr h);have hQ8:Fr (λb=>b=gAq7\/b=gBq7) Q P2:=Fr.trans (h8q7.mono λ_ h=>h.elim) hFF;have hP2s:=hQ8.size;have HPq7:=ae (And.intro (hB1.on hF2 HNE.o) (And.intro hB2 hQ8));clear hP1 hP2 hB1 hB2 hF1 hF2 hBb hBA hBB hFF hQ8 h8q7 z0q7 z0f z0l;go_wp2_with(fail);go_roundw
      case rel=>
       have hs:=HSq7.o.2.2.2.1;refine⟨i+1,⟨SC,cmq7,cdq7,TC,tm2,td2,HCq7,hm2,hd2⟩,⟨SD,dmq7,ddq7,TD,tm3,td3,HDq7,hm3,hd3⟩,by go_num,ad,?_,?_,?_,?_,?_⟩
       .exact Fr.trans (Fr.trans HSq7.o.2.2.2.2.1 ((HZq7.o.1.trans HQq7.o.1).mono λ_ h=>h.elim)) HPq7.o.2.2
       .rw[hs];exact HPq7.o.1
       .rw[hs];exact HPq7.o.2.1
       .rw[hs];exact(HZq7.o.2.1.ak λk hkq7=>(HPq7.o.2.2.block k ad (by intro h;rcases h with h|h<;>omega)).trans (HQq7.o.1.block k hkq7.2.1 λh=>h)).mono λk hkq7=>ad
       .rw[hs];exact(HQq7.o.2.1.ak λk hkq7=>HPq7.o.2.2.block k hkq7.2.1 (by intro h;rcases h with h|h<;>omega)).mono λk hkq7=>ad
      case measure=>simp[intOf];omega
   .have hE':=hEr;clear hBA hBB hIA hIB hok;go_wp2_with(fail);refine(IY wr).mono ?_;rintro e w8q7 ⟨rfl,hE8⟩;go_wp2_with(fail);go_ret;exact⟨rfl,Fr.ext ((HXq7.o.2.1.trans hE').trans hE8)⟩
end Go.Proofs.YtglbpimocmhojaaGreat

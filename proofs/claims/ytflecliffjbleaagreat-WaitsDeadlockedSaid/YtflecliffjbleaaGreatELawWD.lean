/- The law WaitsDeadlocked, walked. No condition but the gy of slices. -/
import Derived.Test.YtflecliffjbleaaGreatELawWx
namespace Go.Proofs.YtflecliffjbleaaGreat
open Go.RowKit
set_option maxRecDepth 1000000
set_option linter.unusedVariables false
set_option maxRecDepth 1000000 in
set_option maxHeartbeats 6400000 in
theorem waitsDeadlocked_any(A B C:Option Addr)(n c m d k c3:Nat)(l pkq7 r:List Int)(w:World)(h:cK (EF b5) 1 w w.heap.size A n l)(hp:cK (EF b5) 1 w w.heap.size B m pkq7)(hrq7:cK (EF b5) 1 w w.heap.size C k r)(hc:n<=c) :
  Calls Tryz.prog 3 #[.slice A n c,.slice B m d,.slice C k c3] w λe w'=>e=.returned (.bool true)/\Below w.heap.size w w':=by
 go_enter Tryz.func3,Tryz.ntmps3;go_wp2_with(fail);refine(state_any A B n c m d l pkq7 w h hp hc).mono ?_;rintro e w1q7 ⟨u,s,⟨GA,gn,gc,MA,mn,mc,PA,pn,pc⟩,⟨SA,snq7,scq7,TA,tn,tc,HA,hn,hc2⟩,rfl,_,hwa,hE1⟩;have H1:=ad (And.intro hwa (And.intro hE1 (hrq7.cS (Fr.ext hE1) hE1.size)));clear hwa hE1 h hp hrq7;dsimp only[UV.val,SV.val];go_upto_region 2 with(fail);generalize hX:World.alloc _ _=X;have hEX:Ext w1q7 X:=by rw[<-hX];exact((Fr.refl _ _).alloc _).alloc _
 have hB4:an X w1q7.heap.size 26 #[.slice GA gn gc,.slice MA mn mc,.slice PA pn pc,.int .i64 u.main]:=by rw[<-hX];exact(an.new _ _ _).alloc _
 have hB5:an X (w1q7.heap.size+1) 30 #[.slice SA snq7 scq7,.slice TA tn tc,.slice HA hn hc2,.int .i64 s.fault]:=by rw[<-hX];exact an.hY _ _ _ (by simp)
 have HXq7:=ad (And.intro (H1.o.1.on hEX) (And.intro (H1.o.2.1.trans hEX) (And.intro hB4 (And.intro hB5 (H1.o.2.2.cS (Fr.ext hEX) hEX.size)))));have hXs:=hB5.lt;clear hX hEX hB4 hB5;go_wp2_with(fail);refine(ring_any C k c3 r X HXq7.o.2.2.2.2).mono ?_;rintro e w2q7 ⟨u',s',⟨GA',gn',gc',MA',mn',mc',PA',pn',pc'⟩,⟨SA',sn',sc',TA',tn',tc',HA',hn',hc2'⟩,rfl,hwa,hE2⟩;have H2q7:=ad (And.intro hwa hE2);have hs2:=hE2.size;clear hwa hE2;dsimp only[UV.val,SV.val];go_upto_region 3 with(fail);generalize hYq7:World.alloc _ _=Y;have hEY:Ext w2q7 Y:=by rw[<-hYq7];exact((Fr.refl _ _).alloc _).alloc _
 have hB6:an Y w2q7.heap.size 26 #[.slice GA' gn' gc',.slice MA' mn' mc',.slice PA' pn' pc',.int .i64 u'.main]:=by rw[<-hYq7];exact(an.new _ _ _).alloc _
 have hB7:an Y (w2q7.heap.size+1) 30 #[.slice SA' sn' sc',.slice TA' tn' tc',.slice HA' hn' hc2',.int .i64 s'.fault]:=by rw[<-hYq7];exact an.hY _ _ _ (by simp)
 have hEXY:=H2q7.o.2.trans hEY;have HYq7:=ad (And.intro (HXq7.o.1.on hEXY) (And.intro (H2q7.o.1 Y hEY.size λb _ hbq7=>hEY.block b hbq7 λh=>h).1 (HXq7.o.2.1.trans hEXY)));have hn1:=(HXq7.o.1.len).2.2;have hn2:=(HYq7.o.2.1.len).2.2;have ht1:=(HXq7.o.1.len).1;have ht2:=(HYq7.o.2.1.len).1;simp only at hn1 hn2 ht1 ht2;obtain⟨x0q7,x0f,x0l⟩:=(HXq7.o.2.2.1.aj hEXY).two;obtain⟨y0q7,y0f,y0l⟩:=(HXq7.o.2.2.2.1.aj hEXY).two;obtain⟨z0q7,z0f,z0l⟩:=hB6.two;obtain⟨v0,v0f,v0l⟩:=hB7.two;have HBK:=ad (And.intro (HXq7.o.2.2.1.aj hEXY) (And.intro (HXq7.o.2.2.2.1.aj hEXY) (And.intro hB6 hB7)));clear hYq7 hEY hB6 hB7 hEXY;have hd1:=dead_few (u:=u) (s:=s);have hd2:=dead_few (u:=u') (s:=s');have hc1:=cyc_few (u:=u) (s:=s);have hc4:=cyc_few (u:=u') (s:=s');refine eU (λ_=>False) [(0,0),(1,0),(3,0),(4,0),(2,1),(5,1),(6,1),(7,3),(8,0),(9,0),(11,0),(12,0),(10,1),(13,1),(14,1),(15,3),(16,3),(17,0),(18,0),(20,0),(21,0),(19,1),(22,1),(23,1),(24,3),(25,3),(26,0),(27,0),(29,0),(30,0),(28,1),(31,1),(32,1),(33,3),(34,3),(35,1),(36,3),(37,3)] ?_;refine bH (v:=?_) rfl (by rfl) (λV hV=>?_) ?_;rotate_left
 ·(first|obtain⟨hVc,hVf⟩:=Fr.G2 hV|obtain⟨hVc,hVf⟩:=Fr.twod hV|obtain⟨hVc,hVf⟩:=Fr.rz hV|obtain⟨hVc,hVf⟩:=Fr.two hV)
  (go_simp<;>with_reducible rfl)
 try simp only[PU]
 refine bH (v:=?_) rfl (by rfl) (λV hV=>?_) ?_;rotate_left
 ·(first|obtain⟨hVc,hVf⟩:=Fr.G2 hV|obtain⟨hVc,hVf⟩:=Fr.twod hV|obtain⟨hVc,hVf⟩:=Fr.rz hV|obtain⟨hVc,hVf⟩:=Fr.two hV)
  (go_simp<;>with_reducible rfl)
 try simp only[PU]
 refine bH (v:=?_) rfl (by rfl) (λV hV=>?_) ?_;rotate_left
 ·(first|obtain⟨hVc,hVf⟩:=Fr.G2 hV|obtain⟨hVc,hVf⟩:=Fr.twod hV|obtain⟨hVc,hVf⟩:=Fr.rz hV|obtain⟨hVc,hVf⟩:=Fr.two hV)
  (go_simp<;>with_reducible rfl)
 try simp only[PU]
 refine bH (v:=?_) rfl (by rfl) (λV hV=>?_) ?_;rotate_left
 ·(first|obtain⟨hVc,hVf⟩:=Fr.G2 hV|obtain⟨hVc,hVf⟩:=Fr.twod hV|obtain⟨hVc,hVf⟩:=Fr.rz hV|obtain⟨hVc,hVf⟩:=Fr.two hV)
  (go_simp<;>with_reducible rfl)
 try simp only[PU]
 refine aO rfl (λK hK=>?_);go_simp;refine(mdead u s 60 Y.drew ⟨GA,gn,gc,MA,mn,mc,PA,pn,pc⟩ ⟨SA,snq7,scq7,TA,tn,tc,HA,hn,hc2⟩ (HYq7.o.1.on ((Fr.refl _ _).drew))).mono ?_;rintro e w3q7 ⟨A1q7,c1,rfl,_,hsl,hEq7⟩;have H3q7:=ad (And.intro hsl (((Fr.refl _ _).drew:Ext Y Y.drew).trans hEq7));refine ei hK (hEq7) ?_;clear hK K;clear hsl hEq7;refine aO rfl (λK hK=>?_);go_simp;refine(rdead u s 60 w3q7 ⟨GA,gn,gc,MA,mn,mc,PA,pn,pc⟩ ⟨SA,snq7,scq7,TA,tn,tc,HA,hn,hc2⟩ (HYq7.o.1.on H3q7.o.2)).mono ?_;rintro e w4q7 ⟨A2,c2,rfl,_,hsl,hEq7⟩;have H4q7:=ad (And.intro (H3q7.o.1.cS (Fr.ext hEq7) hEq7.size) (And.intro hsl (H3q7.o.2.trans hEq7)));refine ei hK (hEq7) ?_;clear hK K;clear hsl hEq7;refine aO rfl (λK hK=>?_);go_simp;refine(same_self A1q7 A2 c1 c2 (gx (aI u s)) w4q7 H4q7.o.1 H4q7.o.2.1 ab).mono ?_;rintro e w5q7 ⟨rfl,hEq7⟩;have H5q7:=ad (H4q7.o.2.2.trans hEq7);refine ei hK (hEq7) ?_;clear hK K;clear hEq7;refine pf ?_;clear x0q7 x0f x0l y0q7 y0f y0l z0q7 z0f z0l v0 v0f v0l;obtain⟨x0q7,x0f,x0l⟩:=(HBK.o.1.aj H5q7.o).two;obtain⟨y0q7,y0f,y0l⟩:=(HBK.o.2.1.aj H5q7.o).two;obtain⟨z0q7,z0f,z0l⟩:=(HBK.o.2.2.1.aj H5q7.o).two;obtain⟨v0,v0f,v0l⟩:=(HBK.o.2.2.2.aj H5q7.o).two
 iterate 4 refine KT ?_
 refine aO rfl (λK hK=>?_);go_simp;refine(mcycle u s 60 w5q7 ⟨GA,gn,gc,MA,mn,mc,PA,pn,pc⟩ ⟨SA,snq7,scq7,TA,tn,tc,HA,hn,hc2⟩ (HYq7.o.1.on (H5q7.o))).mono ?_;rintro e w6q7 ⟨A1q7,c1,rfl,_,hsl,hEq7⟩;have H6q7:=ad (And.intro hsl ((H5q7.o:Ext Y w5q7).trans hEq7));refine ei hK (hEq7) ?_;clear hK K;clear hsl hEq7;refine aO rfl (λK hK=>?_);go_simp;refine(rcycle u s 60 w6q7 ⟨GA,gn,gc,MA,mn,mc,PA,pn,pc⟩ ⟨SA,snq7,scq7,TA,tn,tc,HA,hn,hc2⟩ (HYq7.o.1.on H6q7.o.2)).mono ?_;rintro e w7q7 ⟨A2,c2,rfl,_,hsl,hEq7⟩;have H7q7:=ad (And.intro (H6q7.o.1.cS (Fr.ext hEq7) hEq7.size) (And.intro hsl (H6q7.o.2.trans hEq7)));refine ei hK (hEq7) ?_;clear hK K;clear hsl hEq7;refine aO rfl (λK hK=>?_);go_simp;refine(same_self A1q7 A2 c1 c2 (ma (aI u s)) w7q7 H7q7.o.1 H7q7.o.2.1 ab).mono ?_;rintro e w8q7 ⟨rfl,hEq7⟩;have H8q7:=ad (H7q7.o.2.2.trans hEq7);refine ei hK (hEq7) ?_;clear hK K;clear hEq7
 iterate 2 refine pf ?_
 clear x0q7 x0f x0l y0q7 y0f y0l z0q7 z0f z0l v0 v0f v0l;obtain⟨x0q7,x0f,x0l⟩:=(HBK.o.1.aj H8q7.o).two;obtain⟨y0q7,y0f,y0l⟩:=(HBK.o.2.1.aj H8q7.o).two;obtain⟨z0q7,z0f,z0l⟩:=(HBK.o.2.2.1.aj H8q7.o).two;obtain⟨v0,v0f,v0l⟩:=(HBK.o.2.2.2.aj H8q7.o).two
 iterate 4 refine KT ?_
 refine aO rfl (λK hK=>?_);go_simp;refine(mdead u' s' 60 w8q7 ⟨GA',gn',gc',MA',mn',mc',PA',pn',pc'⟩ ⟨SA',sn',sc',TA',tn',tc',HA',hn',hc2'⟩ (HYq7.o.2.1.on (H8q7.o))).mono ?_;rintro e w9q7 ⟨A1q7,c1,rfl,_,hsl,hEq7⟩;have H9q7:=ad (And.intro hsl ((H8q7.o:Ext Y w8q7).trans hEq7));refine ei hK (hEq7) ?_;clear hK K;clear hsl hEq7;refine aO rfl (λK hK=>?_);go_simp;refine(rdead u' s' 60 w9q7 ⟨GA',gn',gc',MA',mn',mc',PA',pn',pc'⟩ ⟨SA',sn',sc',TA',tn',tc',HA',hn',hc2'⟩ (HYq7.o.2.1.on H9q7.o.2)).mono ?_;rintro e w10 ⟨A2,c2,rfl,_,hsl,hEq7⟩;have H10:=ad (And.intro (H9q7.o.1.cS (Fr.ext hEq7) hEq7.size) (And.intro hsl (H9q7.o.2.trans hEq7)));refine ei hK (hEq7) ?_;clear hK K;clear hsl hEq7;refine aO rfl (λK hK=>?_);go_simp;refine(same_self A1q7 A2 c1 c2 (gx (aI u' s')) w10 H10.o.1 H10.o.2.1 ab).mono ?_;rintro e w11 ⟨rfl,hEq7⟩;have H11:=ad (H10.o.2.2.trans hEq7);refine ei hK (hEq7) ?_;clear hK K;clear hEq7
 iterate 2 refine pf ?_
 clear x0q7 x0f x0l y0q7 y0f y0l z0q7 z0f z0l v0 v0f v0l;obtain⟨x0q7,x0f,x0l⟩:=(HBK.o.1.aj H11.o).two;obtain⟨y0q7,y0f,y0l⟩:=(HBK.o.2.1.aj H11.o).two;obtain⟨z0q7,z0f,z0l⟩:=(HBK.o.2.2.1.aj H11.o).two;obtain⟨v0,v0f,v0l⟩:=(HBK.o.2.2.2.aj H11.o).two
 iterate 4 refine KT ?_
 refine aO rfl (λK hK=>?_);go_simp;refine(mcycle u' s' 60 w11 ⟨GA',gn',gc',MA',mn',mc',PA',pn',pc'⟩ ⟨SA',sn',sc',TA',tn',tc',HA',hn',hc2'⟩ (HYq7.o.2.1.on (H11.o))).mono ?_;rintro e w12 ⟨A1q7,c1,rfl,_,hsl,hEq7⟩;have H12:=ad (And.intro hsl ((H11.o:Ext Y w11).trans hEq7));refine ei hK (hEq7) ?_;clear hK K;clear hsl hEq7;refine aO rfl (λK hK=>?_);go_simp;refine(rcycle u' s' 60 w12 ⟨GA',gn',gc',MA',mn',mc',PA',pn',pc'⟩ ⟨SA',sn',sc',TA',tn',tc',HA',hn',hc2'⟩ (HYq7.o.2.1.on H12.o.2)).mono ?_;rintro e w13 ⟨A2,c2,rfl,_,hsl,hEq7⟩;have H13:=ad (And.intro (H12.o.1.cS (Fr.ext hEq7) hEq7.size) (And.intro hsl (H12.o.2.trans hEq7)));refine ei hK (hEq7) ?_;clear hK K;clear hsl hEq7;refine aO rfl (λK hK=>?_);go_simp;refine(same_self A1q7 A2 c1 c2 (ma (aI u' s')) w13 H13.o.1 H13.o.2.1 ab).mono ?_;rintro e w14 ⟨rfl,hEq7⟩;have H14:=ad (H13.o.2.2.trans hEq7);refine ei hK (hEq7) ?_;clear hK K;clear hEq7
 iterate 2 refine pf ?_
 refine aO rfl (λK hK=>?_);go_simp;refine(awake11 w14).mono ?_;rintro e w20 ⟨rfl,hEq7⟩;have H20:=ad (HYq7.o.2.2.trans (H14.o.trans hEq7));refine ei hK (hEq7) ?_;clear hK K;clear hEq7
 iterate 2 refine pf ?_
 refine aB ?_;go_wp2_with(fail);go_ret;exact⟨rfl,Fr.ext H20.o⟩
end Go.Proofs.YtflecliffjbleaaGreat

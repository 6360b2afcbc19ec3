/- The law WaitsStep, walked. No condition but the sizes of slices. -/
import Derived.Test.YtflecliffjbleaaGreatS46
import Derived.Test.YtflecliffjbleaaGreatS23
namespace Go.Proofs.YtflecliffjbleaaGreat
open Go.RowKit
set_option maxRecDepth 1000000
set_option linter.unusedVariables false
set_option maxRecDepth 1000000 in
set_option maxHeartbeats 6400000 in
theorem waitsStep_any(A B:Option Addr)(n c m d:Nat)(l pkq7:List Int)(t:Int)(w:World)(h:cA (EF cd) 1 w w.heap.size A n l)(hp:cA (EF cd) 1 w w.heap.size B m pkq7)(hc:n<=c) :
  Calls Tryz.prog 7 #[.slice A n c,.slice B m d,.int .i64 t] w λe w'=>e=.returned (.bool true)/\Below w.heap.size w w':=by
 go_enter Tryz.func7,Tryz.ntmps7;go_wp2_with(fail);refine(state_any A B n c m d l pkq7 w h hp hc).mono ?_;rintro e w1q7 ⟨u,s,⟨GA,gn,gc,MA,mn,mc,PA,pn,pc⟩,⟨SA,snq7,scq7,TA,tn,tc,HA,hn,hc2⟩,rfl,_,hwa,hE1⟩;have hl:=hwa.len;simp only at hl;have hn1:=hl.2.1;have hn32:=hl.2.2;have hen:=FQ hwa.hU.ok hwa.hS (t:=within t hn);have H1:=ae (And.intro hwa hE1);clear hwa hE1 hl h hp;dsimp only[UV.val,SV.val];go_upto_region 2 with(fail);generalize hX:World.alloc _ _=X;have hEX:Ext w1q7 X:=by rw[<-hX];exact((Fr.refl _ _).alloc _).alloc _
 have hB4:ao X w1q7.heap.size 26 #[.slice GA gn gc,.slice MA mn mc,.slice PA pn pc,.int .i64 u.main]:=by rw[<-hX];exact(ao.new _ _ _).alloc _
 have hB5:ao X (w1q7.heap.size+1) 30 #[.slice SA snq7 scq7,.slice TA tn tc,.slice HA hn hc2,.int .i64 s.fault]:=by rw[<-hX];exact ao.gA _ _ _ (by simp)
 have HXq7:=ae (And.intro (H1.o.1.on hEX) (And.intro (H1.o.2.trans hEX) (And.intro hB4 hB5)));obtain⟨x0q7,x0f,x0l⟩:=hB4.two;obtain⟨y0q7,y0f,y0l⟩:=hB5.two;clear hX hEX hB4 hB5;go_wp2_with(fail);refine(thread_any ⟨SA,snq7,scq7,TA,tn,tc,HA,hn,hc2⟩ s t X HXq7.o.1.s hn1 (by simp only;omega)).mono ?_;rintro e w3q7 ⟨rfl,hE3⟩;simp only;generalize within t hn=t2 at *;have H3q7:=ae hE3;clear hE3 x0q7 x0f x0l y0q7 y0f y0l;obtain⟨x0q7,x0f,x0l⟩:=(HXq7.o.2.2.1.aj H3q7.o).two;obtain⟨y0q7,y0f,y0l⟩:=(HXq7.o.2.2.2.aj H3q7.o).two;go_wp2_with(fail);refine(mstep u s t2 60 w3q7 ⟨GA,gn,gc,MA,mn,mc,PA,pn,pc⟩ ⟨SA,snq7,scq7,TA,tn,tc,HA,hn,hc2⟩ HXq7.o.1.hU HXq7.o.1.hS ad (HXq7.o.1.on H3q7.o).u (HXq7.o.1.on H3q7.o).s).mono ?_;rintro e w4q7 ⟨⟨QA,qnq7,qc,RA,rnq7,rc,VA,vnq7,vcq7⟩,rfl,_,hE4⟩;rw[<-hen];clear hen;generalize (cj u s t2).1=S2;have H4q7:=ae (H3q7.o.trans hE4);clear hE4 x0q7 x0f x0l y0q7 y0f y0l;dsimp only[SV.val];go_upto_region 4 with(fail);generalize hYq7:World.alloc _ _=Y;have hEY:Ext w4q7 Y:=by rw[<-hYq7];exact(Fr.refl _ _).alloc _
 have H5q7:=ae (H4q7.o.trans hEY);clear hYq7 hEY;obtain⟨x0q7,x0f,x0l⟩:=(HXq7.o.2.2.1.aj H5q7.o).two;obtain⟨y0q7,y0f,y0l⟩:=(HXq7.o.2.2.2.aj H5q7.o).two;go_wp2_with(fail);refine(ot false u s t2 60 Y ⟨GA,gn,gc,MA,mn,mc,PA,pn,pc⟩ ⟨SA,snq7,scq7,TA,tn,tc,HA,hn,hc2⟩ (HXq7.o.1.on H5q7.o)).mono ?_;rintro e w6q7 ⟨rfl,hE6⟩;generalize zE u s t2=b;have hbb:(b == b)=true:=by simp
 have H6q7:=ae (HXq7.o.2.1.trans (H5q7.o.trans hE6));clear hE6 x0q7 x0f x0l y0q7 y0f y0l;go_wp2_with(fail);refine(awake11 w6q7).mono ?_;rintro e w20 ⟨rfl,hEq7⟩;have H20:=ae (H6q7.o.trans hEq7);clear hEq7;go_wp2_with(fail);go_ret;exact⟨rfl,Fr.ext H20.o⟩
end Go.Proofs.YtflecliffjbleaaGreat

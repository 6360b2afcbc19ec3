/- The law MachineInstruction, walked. No condition but the fx of slices. -/
import Derived.Test.YtglbpimocmhojaaGreatESamC
import Derived.Test.YtglbpimocmhojaaGreatQ49
import Derived.Test.YtglbpimocmhojaaGreatQ31
namespace Go.Proofs.YtglbpimocmhojaaGreat
open Go.RowKit
set_option maxRecDepth 1000000
set_option linter.unusedVariables false
def zxq7:az:=⟨0,0,false,none,⟨false,0,none⟩,[],[]⟩
def insO(u:ay)(s:aj)(t:Int):az×Bool:=match dW u s t with
 | some x=>(x,true)
 | none=>(zxq7,false)
def zvq7:IV:=⟨0,0,⟨#[]⟩,none,0,0,none,0,0,none,0,0,none,0,0⟩
theorem zx_ok(w:World):zvq7.Ok w zxq7:=
 ⟨fh.2 ⟨_,_,rfl⟩,dT.2 ⟨_,_,_,rfl,Nat.le_refl _,Sl.bN _⟩,Sl.bN _,Nat.le_refl _,Sl.bN _,Nat.le_refl _⟩
def InsRes(w:World)(r:az×Bool)(e:Ending)(w':World):Prop:=∃v:IV,e=.returned (.tuple #[.agg (v.val r.1),.bool r.2])/\v.Ok w' r.1/\Ext w w'
theorem ins_both(u:ay)(s:aj)(t:Int)(N:Nat)(w:World)(p:UV)(q:SV)(hU:tq u)(hS:aV u N s)(hN:N<=1000)(hu:p.Ok w u)(hqq7:q.Ok w s) :
  Calls Tryz.prog 16 #[.agg (p.val u),.agg (q.val s),.int .i64 t] w (InsRes w (insO u s t))/\Calls Tryz.prog 17 #[.agg (p.val u),.agg (q.val s),.int .i64 t] w (InsRes w (insO u s t)):=by
 cases htop:eg s t with
 | none=>
  have hiq7:insO u s t=(zxq7,false):=by unfold insO dW;rw[htop];rfl
  rw[hiq7]
  exact⟨(tQ u s t w p q hqq7 htop).mono λe w' h=>⟨zvq7,h.1,zx_ok _,h.2⟩,(uo u s t w p q hqq7 htop).mono λe w' h=>⟨zvq7,h.1,zx_ok _,h.2⟩⟩
 | some f=>
  obtain⟨prq7,x,hsp,hxi⟩:=jO.of hU hS ad htop;have hiq7:insO u s t=(x,true):=by unfold insO;rw[hxi]
  have hI:HY u s t f prq7 x w p q:=⟨hsp.sm,hsp.ht,hsp.hp,hsp.hx,hsp.hF.proc,hsp.pc.1,hsp.il,hsp.kl,hu,hqq7⟩
  rw[hiq7];exact⟨tR u s t f prq7 x w p q hI,uq u s t f prq7 x w p q hI⟩
theorem ins_facts{u:ay}{s:aj}{t:Int}{N:Nat}(hU:tq u)(hS:aV u N s)(hN:N<=1000):(insO u s t).1.ints.length<=200/\(insO u s t).1.places.length<=200/\((insO u s t).2=false->eg s t=none)/\
  ((insO u s t).2=true->(insO u s t).1.op=4\/(insO u s t).1.op=5->∃f,eg s t=some f/\∃prq7,u.procs[f.proc.toNat]?=some prq7/\cU (bx u) prq7.locals prq7.au (insO u s t).1.place):=by
 cases htop:eg s t with
 | none=>
  have hiq7:insO u s t=(zxq7,false):=by unfold insO dW;rw[htop];rfl
  rw[hiq7]
  exact⟨by decide,by decide,(λ_=>rfl),λh=>by cases h⟩
 | some f=>
  obtain⟨prq7,x,hsp,hxi⟩:=jO.of hU hS ad htop;have hiq7:insO u s t=(x,true):=by unfold insO;rw[hxi]
  rw[hiq7];refine⟨hsp.il,hsp.kl,(λh=>by cases h),λ_ hoq7=>⟨f,rfl,prq7,hsp.hp,?_⟩⟩;obtain⟨len,_,hkq7⟩:=hsp.ok;simp only at hoq7;rcases hkq7 with⟨h1q7,_⟩|⟨h1q7,_⟩|⟨_,_,h1q7⟩|⟨h1q7,_⟩|⟨h1q7,_⟩|⟨h1q7,_⟩<;>first|exact h1q7|omega
set_option maxRecDepth 1000000 in
set_option maxHeartbeats 1600000 in
theorem melem_none(u:ay)(s:aj)(t:Int)(w:World)(p:UV)(q:SV)(hs:q.Ok w s)(ht:eg s t=none) :
  Calls Tryz.prog 19 #[.agg (p.val u),.agg (q.val s),.int .i64 t,.agg #[.bool false,.int .i64 0,.slice none 0 0]] w λe w'=>e=.returned (.tuple #[.int .i64 0,.int .i64 0])/\Ext w w':=by
 obtain⟨GA,gn,gc,MA,mn,mc,PA,pn,pc⟩:=p;obtain⟨SA,snq7,scq7,TA,tn,tc,HA,hn,hc⟩:=q;have HSq7:=ae (And.intro hs ht);clear hs ht;dsimp only[UV.val,SV.val];go_enter Tryz.func19,Tryz.ntmps19;go_upto_region 1 with(fail);generalize hWq7:World.alloc _ _=W;have hEq7:Ext w W:=by rw[<-hWq7];exact(((Fr.refl _ _).alloc _).alloc _).alloc _
 have hB5:aq W (w.heap.size+1) 40 #[.slice SA snq7 scq7,.slice TA tn tc,.slice HA hn hc,.int .i64 s.fault]:=by rw[<-hWq7];exact(aq.gz _ _ _ (by simp)).alloc _
 have HWq7:=ae hEq7;obtain⟨b0q7,b0f,b0l⟩:=hB5.two;clear hWq7 hEq7 hB5;go_wp2_with(fail);refine(yq s SA TA HA snq7 scq7 tn tc hn hc t W (HSq7.o.1.on HWq7.o).at_ HSq7.o.2).mono ?_;rintro e w1q7 ⟨rfl,hE1⟩;have HE1:=ae (HWq7.o.trans hE1);clear b0q7 b0f b0l hE1;go_wp2_with(fail);refine bodyPost_ret (v:=.tuple #[.int .i64 0,.int .i64 0]) (by simp[results,Tryz.results19,go_sem]) rfl ?_;exact⟨rfl,HE1.o⟩
set_option maxRecDepth 1000000 in
set_option maxHeartbeats 12800000 in
theorem machineInstruction_any(A B:Option Addr)(n c m d:Nat)(l pkq7:List Int)(t:Int)(raw:Bool)(w:World)(h:cx (EF cT) 1 w w.heap.size A n l)(hp:cx (EF cT) 1 w w.heap.size B m pkq7)(hc:n<=c) :
  Calls Tryz.prog 4 #[.slice A n c,.slice B m d,.int .i64 t,.bool raw] w λe w'=>e=.returned (.bool true)/\Below w.heap.size w w':=by
 have H:=ae (And.intro h hp);clear h hp;go_enter Tryz.func4,Tryz.ntmps4;go_wp2_with(fail);refine(IL A n c l w H.o.1 hc).mono ?_;rintro e w1q7 ⟨u,b0q7,b1q7,b2q7,b3q7,b4,b5q7,m0q7,m1q7,m2q7,m3q7,m4q7,m5q7,d0,d1,d2,d3,d4,d5,GA,gn,gc,MA,mn,mc,PA,pn,pc,rfl,hU,_,_,_,hrep,hE1⟩;have hu1:(⟨GA,gn,gc,MA,mn,mc,PA,pn,pc⟩:UV).Ok w1q7 u:=Jz hrep λb hbq7=>hbq7.2;have H1:=ae (And.intro hU (And.intro hu1 hE1));clear hU hu1 hE1 hrep;go_upto_region 2 with(fail);generalize hX:World.alloc _ _=X;have hEX:Ext w1q7 X:=by rw[<-hX];exact(((Fr.refl _ _).alloc _).alloc _).alloc _
 have hBX:aq X (w1q7.heap.size+1) 30 #[.slice GA gn gc,.slice MA mn mc,.slice PA pn pc,.int .i64 u.main]:=by rw[<-hX];exact(aq.gz _ _ _ (by simp)).alloc _
 have hEw:=H1.o.2.2.trans hEX;have HXq7:=ae (And.intro (H1.o.2.1.on hEX) (And.intro hEw (And.intro hBX (H.o.2.c8 hEw.ext hEw.size))));obtain⟨x0q7,x0f,x0l⟩:=hBX.two;clear hX hEX hBX hEw;go_wp2_with(fail);refine(mkstate_any u ⟨GA,gn,gc,MA,mn,mc,PA,pn,pc⟩ B m d pkq7 X H1.o.1 HXq7.o.1 HXq7.o.2.2.2).mono ?_;rintro e w2q7 ⟨⟨SA,snq7,scq7,TA,tn,tc,HA,hn,hc2⟩,rfl,hqq7,hE2⟩;have hok:=IS u H1.o.1 pkq7;generalize iP u (dJ u) (bT pkq7 60)=S at *;have hsm:=hok.small H1.o.1.ok ad;have qK:hn=S.threads.length:=by have:=hqq7.at_.h.1;simpa using this.symm
 have h1n:1<=hn:=by have:=hok.yO;omega
 have h2n:hn<=1000000:=by have:=hsm.h;omega
 clear qK;have H2q7:=ae (And.intro hqq7 (And.intro hE2 (And.intro hok hsm)));clear hqq7 hE2 x0q7 x0f x0l hok hsm;dsimp only[SV.val];go_upto_region 3 with(fail);generalize hYq7:World.alloc _ _=Y;have hEY:Ext w2q7 Y:=by rw[<-hYq7];exact(Fr.refl _ _).alloc _
 have hBY:aq Y w2q7.heap.size 40 #[.slice SA snq7 scq7,.slice TA tn tc,.slice HA hn hc2,.int .i64 S.fault]:=by rw[<-hYq7];exact aq.new _ _ _
 have hXY:=H2q7.o.2.1.trans hEY;have HYq7:=ae (And.intro (HXq7.o.1.on hXY) (And.intro (H2q7.o.1.on hEY) (HXq7.o.2.1.trans hXY)));have HBq7:=ae (And.intro (HXq7.o.2.2.1.ai hXY) hBY);obtain⟨x0q7,x0f,x0l⟩:=HBq7.o.1.two;obtain⟨y0q7,y0f,y0l⟩:=HBq7.o.2.two;clear hYq7 hEY hBY hXY;have hcase:∃t2:Int,(bif raw then t else within t hn)=t2:=⟨_,rfl⟩
 obtain⟨t2,ht2⟩:=hcase;have HT2:=ae ht2;have hfx:=ins_facts (t:=t2) H1.o.1 H2q7.o.2.2.1 ad;have hib:=λ(V:World) (hV:Ext Y V)=>ins_both u S t2 60 V ⟨GA,gn,gc,MA,mn,mc,PA,pn,pc⟩ ⟨SA,snq7,scq7,TA,tn,tc,HA,hn,hc2⟩ H1.o.1 H2q7.o.2.2.1 ad (HYq7.o.1.on hV) (HYq7.o.2.1.on hV);generalize insO u S t2=xbq7 at *;obtain⟨x,b⟩:=xbq7;simp only at hfx;have HSq7:=ae (And.intro hib hfx);clear hib hfx ht2;cases raw
 case' false=>
  go_wp2_with(fail);refine(HF ⟨SA,snq7,scq7,TA,tn,tc,HA,hn,hc2⟩ S t Y HYq7.o.2.1 h1n h2n).mono ?_;rintro e w3q7 ⟨rfl,hE3⟩;have hzq7:within t hn=t2:=HT2.o;simp only;rw[hzq7];have H3q7:=ae hE3;clear hE3 hzq7 x0q7 x0f x0l y0q7 y0f y0l;obtain⟨x0q7,x0f,x0l⟩:=(HBq7.o.1.ai H3q7.o).two;obtain⟨y0q7,y0f,y0l⟩:=(HBq7.o.2.ai H3q7.o).two;go_upto_region 5 with(fail)
 case' true=>
  have hzq7:t2=t:=HT2.o.symm;subst hzq7;have H3q7:=ae (Fr.refl (λ_=>False) Y);go_upto_region 5 with(fail)
 all_goals
  go_wp2_with(fail);refine(HSq7.o.1 _ H3q7.o).1.mono ?_;rintro e w4q7 ⟨v,rfl,hvq7,hE4⟩;have H4q7:=ae (And.intro hvq7 (H3q7.o.trans hE4));clear hvq7 hE4 x0q7 x0f x0l y0q7 y0f y0l;obtain⟨eo,en,es,EA,em,ec,QA,qm,qc,IA,ixq7,ic,KA,kxq7,kc⟩:=v;dsimp only[IV.val];go_upto_region 6 with(fail);generalize hZq7:World.alloc _ _=Z;have hEZ:Ext w4q7 Z:=by rw[<-hZq7];exact(Fr.refl _ _).alloc _
  have hBZ:aq Z w4q7.heap.size 58 #[.int .i64 x.op,.int .i64 x.target,.bool x.dg,.int .i64 eo,.int .i64 en,.string es,.slice EA em ec,.bool x.place.param,.int .i64 x.place.index,.slice QA qm qc,.slice IA ixq7 ic,.slice KA kxq7 kc]:=by rw[<-hZq7];exact aq.new _ _ _
  have HZq7:=ae (And.intro (H4q7.o.1.on hEZ) (And.intro (H4q7.o.2.trans hEZ) hBZ));clear hZq7 hEZ hBZ;obtain⟨x0q7,x0f,x0l⟩:=(HBq7.o.1.ai HZq7.o.2.1).two;obtain⟨y0q7,y0f,y0l⟩:=(HBq7.o.2.ai HZq7.o.2.1).two;go_wp2_with(fail);refine(HSq7.o.1 Z HZq7.o.2.1).2.mono ?_;rintro e w5q7 ⟨v,rfl,hvq7,hE5⟩;have H5q7:=ae (And.intro hvq7 hE5);clear hvq7 hE5 x0q7 x0f x0l y0q7 y0f y0l;obtain⟨eo',en',es',EA',em',ec',QA',qm',qc',IA',ix',ic',KA',kx',kc'⟩:=v;dsimp only[IV.val];go_upto_region 7 with(fail);generalize hV:World.alloc _ _=V;have hEV:Ext w5q7 V:=by rw[<-hV];exact(Fr.refl _ _).alloc _
  have hBV:aq V w5q7.heap.size 58 #[.int .i64 x.op,.int .i64 x.target,.bool x.dg,.int .i64 eo',.int .i64 en',.string es',.slice EA' em' ec',.bool x.place.param,.int .i64 x.place.index,.slice QA' qm' qc',.slice IA' ix' ic',.slice KA' kx' kc']:=by rw[<-hV];exact aq.new _ _ _
  have hZV:=H5q7.o.2.trans hEV;have HVq7:=ae (And.intro (H5q7.o.1.on hEV) (And.intro (HZq7.o.2.1.trans hZV) (And.intro hBV (And.intro (HZq7.o.1.on hZV) (HZq7.o.2.2.ai hZV)))));clear hV hEV hBV hZV;obtain⟨x0q7,x0f,x0l⟩:=HVq7.o.2.2.2.2.two;obtain⟨y0q7,y0f,y0l⟩:=HVq7.o.2.2.1.two;have hbb:(b != b)=false:=by simp
  go_wp2_with(fail);generalize hU:World.alloc _ _=U;have hEU:Ext V U:=by rw[<-hU];exact((Fr.refl _ _).alloc _).alloc _
  have hB1:aq U V.heap.size 58 #[.int .i64 x.op,.int .i64 x.target,.bool x.dg,.int .i64 eo,.int .i64 en,.string es,.slice EA em ec,.bool x.place.param,.int .i64 x.place.index,.slice QA qm qc,.slice IA ixq7 ic,.slice KA kxq7 kc]:=by rw[<-hU];exact(aq.new _ _ _).alloc _
  have hB2:aq U (V.heap.size+1) 58 #[.int .i64 x.op,.int .i64 x.target,.bool x.dg,.int .i64 eo',.int .i64 en',.string es',.slice EA' em' ec',.bool x.place.param,.int .i64 x.place.index,.slice QA' qm' qc',.slice IA' ix' ic',.slice KA' kx' kc']:=by rw[<-hU];exact aq.gz _ _ _ (by simp)
  have HUq7:=ae (And.intro hEU (And.intro hB1 hB2));clear hU hEU hB1 hB2 x0q7 x0f x0l y0q7 y0f y0l;refine(same1 x ⟨eo,en,es,EA,em,ec,QA,qm,qc,IA,ixq7,ic,KA,kxq7,kc⟩ ⟨eo',en',es',EA',em',ec',QA',qm',qc',IA',ix',ic',KA',kx',kc'⟩ _ _ U (HVq7.o.2.2.2.1.on HUq7.o.1) (HVq7.o.1.on HUq7.o.1) HUq7.o.2.1 HUq7.o.2.2 HSq7.o.2.1 HSq7.o.2.2.1).mono ?_;rintro e w6q7 ⟨rfl,hE6⟩;have H6q7:=ae (And.intro (HUq7.o.1.trans hE6) (HVq7.o.2.1.trans (HUq7.o.1.trans hE6)));clear hE6;obtain⟨x0q7,x0f,x0l⟩:=(HBq7.o.1.ai H6q7.o.2).two;obtain⟨y0q7,y0f,y0l⟩:=(HBq7.o.2.ai H6q7.o.2).two;obtain⟨z0q7,z0f,z0l⟩:=(HVq7.o.2.2.1.ai H6q7.o.1).two;cases b
  case false=>
   go_wp2_with(fail);refine(melem_none u S t2 w6q7 ⟨GA,gn,gc,MA,mn,mc,PA,pn,pc⟩ ⟨SA,snq7,scq7,TA,tn,tc,HA,hn,hc2⟩ (HYq7.o.2.1.on H6q7.o.2) (HSq7.o.2.2.2.1 (by trivial))).mono ?_;rintro e w7q7 ⟨rfl,hE7⟩;have H7q7:=ae hE7;clear hE7 x0q7 x0f x0l y0q7 y0f y0l z0q7 z0f z0l;go_wp2_with(fail);refine(IY w7q7).mono ?_;rintro e w8q7 ⟨rfl,hE8⟩;go_wp2_with(fail);go_ret;exact⟨rfl,Fr.ext (((HYq7.o.2.2.trans H6q7.o.2).trans H7q7.o).trans hE8)⟩
  by_cases hop:x.op=4\/x.op=5
  case neg=>
   have r4q7:(x.op != 4)=true:=by simp;exact λh=>hop (.inl h)
   have r5q7:(x.op != 5)=true:=by simp;exact λh=>hop (.inr h)
   clear hop;go_wp2_with(fail);clear x0q7 x0f x0l y0q7 y0f y0l z0q7 z0f z0l r4q7 r5q7;refine(IY w6q7).mono ?_;rintro e w8q7 ⟨rfl,hE8⟩;go_wp2_with(fail);go_ret;exact⟨rfl,Fr.ext ((HYq7.o.2.2.trans H6q7.o.2).trans hE8)⟩
  obtain⟨f,htop,hpr⟩:=HSq7.o.2.2.2.2 (by trivial) hop;have hel:=λ(W:World) (hWq7:Ext w6q7 W)=>(HU.mk H1.o.1.ok H2q7.o.2.2.1 H2q7.o.2.2.2 htop hpr (HYq7.o.1.on (H6q7.o.2.trans hWq7)) (HYq7.o.2.1.on (H6q7.o.2.trans hWq7)) ((HVq7.o.1.on (H6q7.o.1.trans hWq7)).place):HU u S t2 f x.place 60 W ⟨GA,gn,gc,MA,mn,mc,PA,pn,pc⟩ ⟨SA,snq7,scq7,TA,tn,tc,HA,hn,hc2⟩ QA' qm' qc')
  have hme:=λ(W:World) (hWq7:Ext w6q7 W)=>pT u S t2 f x.place 60 W ⟨GA,gn,gc,MA,mn,mc,PA,pn,pc⟩ ⟨SA,snq7,scq7,TA,tn,tc,HA,hn,hc2⟩ QA' qm' qc' (hel W hWq7);have hre:=λ(W:World) (hWq7:Ext w6q7 W)=>qn u S t2 f x.place 60 W ⟨GA,gn,gc,MA,mn,mc,PA,pn,pc⟩ ⟨SA,snq7,scq7,TA,tn,tc,HA,hn,hc2⟩ QA' qm' qc' (hel W hWq7);generalize xr u S t2 x.place=r at *;obtain⟨rnq7,re⟩:=r;have HEq7:=ae (And.intro hme hre);have q1:(rnq7 == rnq7)=true:=by simp
  have q2q7:(re == re)=true:=by simp
  have hcnd:(x.op != 4)=false\/(x.op != 4)=true/\(x.op != 5)=false:=by rcases hop with h|h<;>simp[h]
  clear hel hme hre htop hpr hop;rcases hcnd with r4q7|⟨r4q7,r5q7⟩
  all_goals
   go_wp2_with(fail);refine(HEq7.o.1 w6q7 (Fr.refl _ _)).mono ?_;rintro e w7q7 ⟨rfl,hb7⟩;have hE7:Ext w6q7 w7q7:=Fr.of hb7;have H7q7:=ae (And.intro (H6q7.o.2.trans hE7) (And.intro (H6q7.o.1.trans hE7) hE7));clear hb7 hE7 x0q7 x0f x0l y0q7 y0f y0l z0q7 z0f z0l;obtain⟨x0q7,x0f,x0l⟩:=(HBq7.o.1.ai H7q7.o.1).two;obtain⟨y0q7,y0f,y0l⟩:=(HBq7.o.2.ai H7q7.o.1).two;obtain⟨z0q7,z0f,z0l⟩:=(HVq7.o.2.2.1.ai H7q7.o.2.1).two;go_wp2_with(fail);refine(HEq7.o.2 w7q7 H7q7.o.2.2).mono ?_;rintro e w8q7 ⟨rfl,hb8⟩;have H8q7:=ae (Fr.trans H7q7.o.1 (Fr.of hb8));clear hb8 x0q7 x0f x0l y0q7 y0f y0l z0q7 z0f z0l;go_wp2_with(fail);refine(IY w8q7).mono ?_;rintro e w9q7 ⟨rfl,hE9⟩;go_wp2_with(fail);go_ret;exact⟨rfl,Fr.ext ((HYq7.o.2.2.trans H8q7.o).trans hE9)⟩
end Go.Proofs.YtglbpimocmhojaaGreat

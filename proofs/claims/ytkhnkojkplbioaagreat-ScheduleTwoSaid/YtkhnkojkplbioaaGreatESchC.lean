/- Layer 10's sanity check holds; Cut. No condition but the fB of slices. -/
import Derived.Test.YtkhnkojkplbioaaGreatESchB
import Derived.Test.YtkhnkojkplbioaaGreatQ42
import Derived.Test.YtkhnkojkplbioaaGreatQ15
import Derived.Test.YtkhnkojkplbioaaGreatQ14
import Derived.Test.YtkhnkojkplbioaaGreatQ47
import Derived.Test.YtkhnkojkplbioaaGreatQ33
import Derived.Test.YtkhnkojkplbioaaGreatQ16
import Derived.Test.YtkhnkojkplbioaaGreatQ44
import Derived.Test.YtkhnkojkplbioaaGreatQ24
import Derived.Lib.SlBytesConst
namespace Go.Proofs.YtkhnkojkplbioaaGreat
open Go.RowKit
set_option maxRecDepth 1000000
set_option linter.unusedVariables false
theorem uvAt{w:World}{P:Nat->Prop}{u:ay}{GA MA PA:Option Addr}{gn gc mn mc pn pc:Nat}{m:Int}(h:(uw u).rep w P [.slice GA gn gc,.slice MA mn mc,.slice PA pn pc,.int .i64 m])(hPq7:∀b,P b->b<w.heap.size):(⟨GA,gn,gc,MA,mn,mc,PA,pn,pc⟩:UV).Ok w u:=by
 obtain⟨_,_,_,_,_,_,_,_,_,he,h1q7,h2q7,h3q7,hu⟩:=l6 (D.aL (c9:=av w) hPq7 _ _ h);injection he with e1 he;injection he with e2 he;injection he with e3 he;injection e1 with a1q7 a2q7 a3;injection e2 with b1q7 b2q7 b3q7;injection e3 with c1 c2 c3;subst a1q7 a2q7 a3 b1q7 b2q7 b3q7 c1 c2 c3;exact⟨hu,h1q7,h2q7,h3q7⟩
theorem belowE{a b:World}(h:Below a.heap.size a b):Ext a b:=⟨h.os,h.tape,h.output,h.size,λk hkq7 _=>h.block k hkq7⟩
theorem sameE(s:ai)(q q':SV)(w:World)(h:q.Ok w s)(h':q'.Ok w s)(hsm:Small s):Calls Tryz.prog 20 #[.agg (q.val s),.agg (q'.val s)] w λe w'=>e=.returned (.bool true)/\Ext w w':=
 (Jq s s q q' w h h' hsm).mono λe w' ⟨b,he,hbq7,hEq7⟩=>⟨by rw[he,hbq7.2 rfl],hEq7⟩
theorem run_state{u:ay}(hU:tV u){l:List Int}{m:Nat}(h:l.length<=m):aX u m (gE u (dG u) l):=
 (w9 hU.ok l 0 (dG u) (pg hU.ok)).mono ad
theorem picksL_len(l:List Int)(m:Nat):(cr l m).length<=m:=by unfold cr;rw[List.length_map,List.length_take];omega
set_option maxHeartbeats 1600000 in
theorem cut_any(A:Option Addr)(n c m:Nat)(l:List Int)(w:World)(h:cp (EF cP) 1 w w.heap.size A n l)(hc:n<=c)(hm:m<=1000) :
  Calls Tryz.prog 35 #[.slice A n c,.int .i64 m] w λr w'=>r=.returned (.slice A (l.take m).length c)/\cp (EF cP) 1 w' w'.heap.size A (l.take m).length (l.take m)/\Ext w w':=by
 have hl:=h.1;by_cases hlt:m<n
 .have hsl:cp (EF cP) 1 w w.heap.size A m (l.take m):=Sl.ints (by rw[List.map_take];exact(cp.ints h (P:=av w) λb hbq7=>hbq7).take (m:=m) ad);have hlen:(l.take m).length=m:=by rw[List.length_take];omega
  obtain⟨b,o,x,rfl,hbq7,hx,c0⟩:=h.int (k:=0) ad;have H:=ae (And.intro hlen hsl);clear h hl hx c0 hlen hsl;go_enter Tryz.func35,Tryz.ntmps35;go_wp2;go_ret;rw[H.o.1];exact⟨rfl,H.o.2,Fr.refl _ _⟩
 .have hlen:l.take m=l:=List.take_of_length_le ad;rw[hlen,hl];have H:=ae h;clear h hl hlen;go_enter Tryz.func35,Tryz.ntmps35;go_wp2;go_ret;exact⟨rfl,H.o,Fr.refl _ _⟩
def azq7:ByteArray:=⟨#[109,117,116,101,120,32,97,59,32,102,117,110,99,32,109,97,105,110,40,41,32,123,32,108,111,99,107,32,97,59,32,117,110,108,111,99,107,32,97,59,32,125]⟩
def azA:ByteArray:=strOf [97]
def azP:bP:=⟨[],[⟨azA,false,0⟩],[⟨strOf [109,97,105,110],[],.lock false ⟨azA,none⟩ (.lock true ⟨azA,none⟩ .nil)⟩]⟩
theorem az_lex:(dw azq7.data.toList).1.length<=4001/\0<(dw azq7.data.toList).1.length/\(dw azq7.data.toList).2.2=0:=by decide +kernel
theorem az_prog:ko (dw azq7.data.toList).1 10 0=some (azP.af,azP.funcs):=by rfl
theorem az_wf:oR azP:=by
 refine⟨?_,?_,by decide,by decide,by decide,?_,?_,?_,⟨0,_,rfl,rfl,rfl⟩,by decide⟩
 .decide
 .decide
 .decide
 .decide
 .intro f hfq7;simp only[azP,List.mem_singleton] at hfq7;subst hfq7;refine⟨by decide,by decide,by decide,?_⟩;have hrq7:su (h3 azP ⟨strOf [109,97,105,110],[],.lock false ⟨azA,none⟩ (.lock true ⟨azA,none⟩ .nil)⟩) (fu azP++cw []) ⟨azA,none⟩:=.inl ⟨⟨azA,false,0⟩,by simp[h3,azP],rfl,λh=>absurd h (by decide),λ_=>rfl⟩;exact⟨hrq7,hrq7,trivial⟩
def azU:ay:=gq azP
theorem azU_ok:tV azU:=⟨yd az_wf,ye azP⟩
def azL:List Int:=[0,5,0,0,0]
def azS:ai:=gE azU (dG azU) azL
theorem az_use:iU azU (dG azU) azL=[0,0,0]:=by decide +kernel
theorem az_thr:azS.threads=[[]]:=by rfl
theorem rowN{w:World}{g:Nat}{t:TypeId}(l:List Int)(h:aq w g t (l.map df).toArray):Sl w (av w) (some ⟨g,0,none⟩) l.length (l.map D.i):=Sl.tv h (cx _) h.lt (by rw[List.length_map])
theorem txt_const(s:ByteArray)(cs:Array Value)(hc:cs=s.data.map λc=>.int .u8 (c.toNat:Int))(hs:s.size<=1000000)(w:World)(t:TypeId)(sp:Nat×Nat):fx (w.alloc (.cells cs t sp)) w.heap.size 0 s.size s:=by
 refine⟨λi hiq7=>?_,by simp,Nat.le_refl _,hs⟩;rw[Nat.zero_add,cell_of_row _ _ i _ t sp (heap_alloc_new w _),hc,Array.getElem?_map,Array.getElem?_eq_getElem (by simpa using hiq7)];rfl
set_option maxRecDepth 1000000 in
set_option maxHeartbeats 6400000 in
theorem awake10(w:World):Calls Tryz.prog 38 #[] w λe w'=>e=.returned (.bool true)/\Ext w w':=by
 go_enter Tryz.func38,Tryz.ntmps38;have kc:=Lib.run_convert_bytes_const (P:=Tryz.prog) w 143 5 #[.int .u8 109,.int .u8 117,.int .u8 116,.int .u8 101,.int .u8 120,.int .u8 32,.int .u8 97,.int .u8 59,.int .u8 32,.int .u8 102,.int .u8 117,.int .u8 110,.int .u8 99,.int .u8 32,.int .u8 109,.int .u8 97,.int .u8 105,.int .u8 110,.int .u8 40,.int .u8 41,.int .u8 32,.int .u8 123,.int .u8 32,.int .u8 108,.int .u8 111,.int .u8 99,.int .u8 107,.int .u8 32,.int .u8 97,.int .u8 59,.int .u8 32,.int .u8 117,.int .u8 110,.int .u8 108,.int .u8 111,.int .u8 99,.int .u8 107,.int .u8 32,.int .u8 97,.int .u8 59,.int .u8 32,.int .u8 125] 42 42 Tryz.underlying143 Tryz.underlying5;go_wp2_with(fail);clear kc;generalize hV:World.alloc _ _=V;have hT:fx V w.heap.size 0 42 azq7:=by rw[<-hV];exact txt_const azq7 _ (by kernel_rfl) (by decide) w _ _
 have heV:Ext w V:=by rw[<-hV];exact(Fr.refl _ _).alloc _
 clear hV;have HVq7:=ae (And.intro hT heV);clear hT heV;refine(zd azq7 w.heap.size 0 42 V azP.af azP.funcs 10 HVq7.o.1 (by decide) az_lex.1 az_lex.2.1 az_lex.2.2 az_prog (by decide) (by decide)).mono ?_;rintro e w1q7 ⟨MA,mn,mc,FA,fn,fc,z,rfl,hpa,hmc,hfc,hE1⟩;have H1:=ae (And.intro hpa (HVq7.o.2.trans hE1));have hs1:=(HVq7.o.2.trans hE1).size;clear hpa hE1 hmc hfc;go_upto_region 2 with(fail);generalize hX:World.alloc _ _=X;have hEX:Ext w1q7 X:=by rw[<-hX];exact(Fr.refl _ _).alloc _
 have hBX:aq X w1q7.heap.size 27 #[.slice none 0 0,.slice MA mn mc,.slice FA fn fc]:=by rw[<-hX];exact aq.new _ _ _
 have hpa:hy X (av X) azP none 0 MA mn FA fn:=by
  have hkq7:∀b,fresh V w1q7 b->X.heap[b]?=w1q7.heap[b]?:=λb hbq7=>hEX.block b hbq7.2 λh=>h;have hm:∀b,fresh V w1q7 b->av X b:=λb hbq7=>Nat.lt_of_lt_of_le hbq7.2 hEX.size;exact⟨Sl.bR _,(H1.o.1.m.al hkq7).mono hm,(H1.o.1.f.al hkq7).mono hm⟩
 have HXq7:=ae (And.intro hpa (H1.o.2.trans hEX));obtain⟨x0q7,x0f,x0l⟩:=hBX.two;clear hX hEX hBX hpa;go_wp2_with(fail);refine(Ey azP az_wf none 0 0 MA mn mc FA fn fc X HXq7.o.1).mono ?_;rintro e w2q7 ⟨GA,gn,gc,NA,nnq7,ncq7,PA,pn,pc,rfl,hrep,hE2⟩;have hu2:(⟨GA,gn,gc,NA,nnq7,ncq7,PA,pn,pc⟩:UV).Ok w2q7 azU:=uvAt (P:=fresh X w2q7) hrep λb hbq7=>hbq7.2;have H2q7:=ae (And.intro hu2 (HXq7.o.2.trans hE2));have hs2:=hE2.size;clear hrep hE2 hu2 x0q7 x0f x0l;go_upto_region 3 with(fail);generalize hYq7:World.alloc _ _=Y;have hEY:Ext w2q7 Y:=by rw[<-hYq7];exact(Fr.refl _ _).alloc _
 have hBY:aq Y w2q7.heap.size 30 #[.slice GA gn gc,.slice NA nnq7 ncq7,.slice PA pn pc,.int .i64 azU.main]:=by rw[<-hYq7];exact aq.new _ _ _
 have HYq7:=ae (And.intro (H2q7.o.1.on hEY) (And.intro (H2q7.o.2.trans hEY) hBY));obtain⟨y0q7,y0f,y0l⟩:=hBY.two;clear hYq7 hEY hBY;go_wp2_with(fail);generalize hAq7:World.alloc _ _=A;have hEA:Ext Y A:=by rw[<-hAq7];exact(Fr.refl _ _).alloc _
 have hBA:aq A Y.heap.size 3 #[.int .i64 0,.int .i64 5,.int .i64 0,.int .i64 0,.int .i64 0]:=by rw[<-hAq7];exact aq.new _ _ _
 have HA:=ae (And.intro (HYq7.o.1.on hEA) (And.intro (Sl.ints (rowN azL hBA)) (And.intro (HYq7.o.2.1.trans hEA) (HYq7.o.2.2.aj hEA))));clear hAq7 hEA hBA y0q7 y0f y0l;have hrn:=srun azU azL (some ⟨Y.heap.size,0,none⟩) 5 5 A ⟨GA,gn,gc,NA,nnq7,ncq7,PA,pn,pc⟩ azU_ok HA.o.1 HA.o.2.1 ad;rw[az_use] at hrn;change Calls _ _ _ _ (zC A azS 3) at hrn
 refine hrn.mono ?_;rintro e w3q7 ⟨⟨SA,snq7,scq7,TA,tn,tc,QA,qnq7,qc⟩,rfl,hq0,hE3⟩;have hqq7:(⟨SA,snq7,scq7,TA,tn,tc,QA,qnq7,qc⟩:SV).Ok w3q7 azS:=hq0.ok λb hbq7=>hbq7.2;have H3q7:=ae (And.intro hqq7 hE3);clear hqq7 hq0 hE3 hrn;dsimp only[SV.val];go_upto_region 4 with(fail);generalize hC:World.alloc _ _=C;have hEC:Ext w3q7 C:=by rw[<-hC];exact(Fr.refl _ _).alloc _
 have hBC:aq C w3q7.heap.size 40 #[.slice SA snq7 scq7,.slice TA tn tc,.slice QA qnq7 qc,.int .i64 azS.fault]:=by rw[<-hC];exact aq.new _ _ _
 have hqC:=H3q7.o.1.on hEC;obtain rfl:qnq7=1:=by have:=hqC.at_.h.1;simp only[List.length_map,az_thr] at this;exact this.symm
 obtain⟨fbq7,foq7,ftq7,FA,x,ic,rfl,hfb,hqf,c0,hic,hft⟩:=hqC.at_.h.kp (k:=0) (by show 0<1;omega);rw[az_thr] at hqf;rw[Nat.add_zero] at c0;obtain rfl:ftq7=[]:=by simpa using hqf.symm
 obtain rfl:x=0:=by have:=hft.1;simpa using this.symm
 have hfb':fbq7<C.heap.size:=hfb;have hAC:=H3q7.o.2.trans hEC;have HCq7:=ae (And.intro (HA.o.1.on hAC) (HA.o.2.2.1.trans hAC));obtain⟨y0q7,y0f,y0l⟩:=(HA.o.2.2.2.aj hAC).two;obtain⟨z0q7,z0f,z0l⟩:=hBC.two;clear hC hEC hBC hqC hqf hft hfb hAC hic;go_wp2_with(fail);generalize hD:World.alloc _ _=D1q7;have hED:Ext C D1q7:=by rw[<-hD];exact(Fr.refl _ _).alloc _
 have hBD:aq D1q7 C.heap.size 3 #[.int .i64 0,.int .i64 5,.int .i64 0,.int .i64 0,.int .i64 0]:=by rw[<-hD];exact aq.new _ _ _
 have HDq7:=ae (HCq7.o.2.trans hED);have hus:=suseful azU azL (some ⟨C.heap.size,0,none⟩) 5 5 D1q7 ⟨GA,gn,gc,NA,nnq7,ncq7,PA,pn,pc⟩ azU_ok (HCq7.o.1.on hED) (Sl.ints (rowN azL hBD)) ad;clear hD hED hBD y0q7 y0f y0l z0q7 z0f z0l c0;rw[az_use] at hus;refine hus.mono ?_;rintro e w5q7 ⟨UA,un,ucq7,rfl,hun,huc,hul,hE5⟩;have hul5:=hul;have HU5:=ae (And.intro hul (And.intro hE5 hun));clear hul hE5 hus hun huc hul5;go_wp2_with(fail);generalize hG:World.alloc _ _=G1q7;have hEG:Ext w5q7 G1q7:=by rw[<-hG];exact(Fr.refl _ _).alloc _
 have hBG:aq G1q7 w5q7.heap.size 3 #[.int .i64 0,.int .i64 0,.int .i64 0]:=by rw[<-hG];exact aq.new _ _ _
 have HGq7:=ae (HDq7.o.trans (HU5.o.2.1.trans hEG));have wC:=rowN [0,0,0] hBG;have hul:=HU5.o.1.on (Fr.ext hEG);obtain rfl:un=3:=by have:=HU5.o.2.2;simpa using this.symm
 clear hG hEG hBG;refine(ib UA (some ⟨w5q7.heap.size,0,none⟩) 3 ucq7 3 3 [0,0,0] [0,0,0] G1q7 hul wC ad).mono ?_;rintro e w6q7 ⟨rfl,hE6⟩;clear hul wC;go_wp2_with(fail);go_ret;exact⟨rfl,HGq7.o.trans (Fr.of hE6)⟩
end Go.Proofs.YtkhnkojkplbioaaGreat

/- The search of explore: AwX, LawXD. No condition of its own. -/
import Derived.Test.YtajlmkkidmjgoaaGreatDoorEEq2
import Derived.Test.YtajlmkkidmjgoaaGreatDoorQ38
import Derived.Test.YtajlmkkidmjgoaaGreatDoorQ15
import Derived.Test.YtajlmkkidmjgoaaGreatDoorQ19
import Derived.Test.YtajlmkkidmjgoaaGreatDoorQ31
import Derived.Test.YtajlmkkidmjgoaaGreatDoorQ06
import Derived.Lib.SlBytesConst
import Derived.Test.YtajlmkkidmjgoaaGreatDoorQ37
import Derived.Test.YtajlmkkidmjgoaaGreatDoorQ26
namespace Go.Proofs.YtajlmkkidmjgoaaGreatDoor
open Go.RowKit
set_option maxRecDepth 1000000
set_option linter.unusedVariables false
section
theorem uvX{w:World}{P:Nat->Prop}{u:ax}{GA MA PA:Option Addr}{gn gc mn mc pn pc:Nat}{m:Int}(h:(uc u).rep w P [.slice GA gn gc,.slice MA mn mc,.slice PA pn pc,.int .i64 m])(hPq7:∀b,P b->b<w.heap.size):(⟨GA,gn,gc,MA,mn,mc,PA,pn,pc⟩:UV).Ok w u:=by
 obtain⟨_,_,_,_,_,_,_,_,_,he,h1q7,h2q7,h3q7,hu⟩:=oO (D.aH (bW:=av w) hPq7 _ _ h);injection he with e1 he;injection he with e2 he;injection he with e3 he;injection e1 with a1q7 a2q7 a3q7;injection e2 with b1q7 b2q7 b3q7;injection e3 with c1 c2 c3;subst a1q7 a2q7 a3q7 b1q7 b2q7 b3q7 c1 c2 c3;exact⟨hu,h1q7,h2q7,h3q7⟩
def crq7:ByteArray:=⟨#[109,117,116,101,120,32,97,59,32,109,117,116,101,120,32,98,59,32,102,117,110,99,32,109,97,105,110,40,41,32,123,32,103,111,32,102,40,41,59,32,108,111,99,107,32,97,59,32,108,111,99,107,32,98,59,32,125,32,102,117,110,99,32,102,40,41,32,123,32,108,111,99,107,32,98,59,32,108,111,99,107,32,97,59,32,125]⟩
def crA:ByteArray:=strOf [97]
def crB:ByteArray:=strOf [98]
def crF:ByteArray:=strOf [102]
def crM:aE:=⟨strOf [109,97,105,110],[],.call true crF [] (.lock false ⟨crA,none⟩ (.lock false ⟨crB,none⟩ .nil))⟩
def crG:aE:=⟨crF,[],.lock false ⟨crB,none⟩ (.lock false ⟨crA,none⟩ .nil)⟩
def crP:bC:=⟨[],[⟨crA,false,0⟩,⟨crB,false,0⟩],[crM,crG]⟩
theorem cr_lex:(fq crq7.data.toList).1.length<=4001/\0<(fq crq7.data.toList).1.length/\(fq crq7.data.toList).2.2=0:=by decide +kernel
theorem cr_prog:k4 (fq crq7.data.toList).1 10 0=some (crP.af,crP.funcs):=by rfl
theorem cr_wf:pH crP:=by
 refine⟨?_,?_,by decide,by decide,by decide,?_,?_,?_,⟨0,_,rfl,rfl,rfl⟩,by decide⟩
 .decide
 .decide
 .decide
 .decide
 .intro f hfq7;have hrq7:∀(f:aE) (V:List ByteArray) (n:ByteArray),n=crA\/n=crB->rU (ik crP f) V ⟨n,none⟩:=λf V n hn=>by
   rcases hn with rfl|rfl
   .exact .inl ⟨⟨crA,false,0⟩,by simp[ik,crP],rfl,λh=>absurd h (by decide),λ_=>rfl⟩
   .exact .inl ⟨⟨crB,false,0⟩,by simp[ik,crP],rfl,λh=>absurd h (by decide),λ_=>rfl⟩
  simp only[crP,List.mem_cons,List.not_mem_nil,or_false] at hfq7;rcases hfq7 with rfl|rfl
  .refine⟨by decide,by decide,by decide,?_⟩;exact⟨⟨[],by simp[ik,crP,crM,crG,sigs],trivial⟩,hrq7 _ _ _ (.inl rfl),hrq7 _ _ _ (.inr rfl),trivial⟩
  .refine⟨by decide,by decide,by decide,?_⟩;exact⟨hrq7 _ _ _ (.inr rfl),hrq7 _ _ _ (.inl rfl),trivial⟩
def crU:ax:=hZ crP
theorem crU_ok:x0 crU:=⟨CY cr_wf,CZ crP⟩
theorem cr_search:searchP crU 5 100=([0,0,1],true):=by decide +kernel
theorem cr_states:(oQ crU 1 100).1.length=2/\(oQ crU 1 100).2=true:=by decide +kernel
theorem txt_cr(cs:Array Value)(hc:cs=crq7.data.map λc=>.int .u8 (c.toNat:Int))(w:World)(t:TypeId)(sp:Nat×Nat):fy (w.alloc (.cells cs t sp)) w.heap.size 0 crq7.size crq7:=by
 refine⟨λi hiq7=>?_,by simp,Nat.le_refl _,by decide⟩;rw[Nat.zero_add,cell_of_row _ _ i _ t sp (heap_alloc_new w _),hc,Array.getElem?_map,Array.getElem?_eq_getElem (by simpa using hiq7)];rfl
set_option maxRecDepth 1000000 in
set_option maxHeartbeats 6400000 in
theorem crossed_any(w:World):Calls Tryz.prog 23 #[] w λe w'=>∃p:UV,e=.returned (.agg (p.val crU))/\p.Ok w' crU/\Ext w w':=by
 go_enter Tryz.func23,Tryz.ntmps23;go_upto_region 1 with(fail);generalize hWq7:World.alloc _ _=W;have hEq7:Ext w W:=by rw[<-hWq7];exact(Fr.refl _ _).alloc _
 have hB0:an W w.heap.size 30 #[.slice none 0 0,.slice none 0 0,.slice none 0 0,.int .i64 0]:=by rw[<-hWq7];exact an.new _ _ _
 have hWs:=hB0.lt;have HW:=ae (And.intro hEq7 hB0);clear hWq7 hEq7 hB0;have kc:=Lib.run_convert_bytes_const (P:=Tryz.prog) W 95 5 #[.int .u8 109,.int .u8 117,.int .u8 116,.int .u8 101,.int .u8 120,.int .u8 32,.int .u8 97,.int .u8 59,.int .u8 32,.int .u8 109,.int .u8 117,.int .u8 116,.int .u8 101,.int .u8 120,.int .u8 32,.int .u8 98,.int .u8 59,.int .u8 32,.int .u8 102,.int .u8 117,.int .u8 110,.int .u8 99,.int .u8 32,.int .u8 109,.int .u8 97,.int .u8 105,.int .u8 110,.int .u8 40,.int .u8 41,.int .u8 32,.int .u8 123,.int .u8 32,.int .u8 103,.int .u8 111,.int .u8 32,.int .u8 102,.int .u8 40,.int .u8 41,.int .u8 59,.int .u8 32,.int .u8 108,.int .u8 111,.int .u8 99,.int .u8 107,.int .u8 32,.int .u8 97,.int .u8 59,.int .u8 32,.int .u8 108,.int .u8 111,.int .u8 99,.int .u8 107,.int .u8 32,.int .u8 98,.int .u8 59,.int .u8 32,.int .u8 125,.int .u8 32,.int .u8 102,.int .u8 117,.int .u8 110,.int .u8 99,.int .u8 32,.int .u8 102,.int .u8 40,.int .u8 41,.int .u8 32,.int .u8 123,.int .u8 32,.int .u8 108,.int .u8 111,.int .u8 99,.int .u8 107,.int .u8 32,.int .u8 98,.int .u8 59,.int .u8 32,.int .u8 108,.int .u8 111,.int .u8 99,.int .u8 107,.int .u8 32,.int .u8 97,.int .u8 59,.int .u8 32,.int .u8 125] 86 86 Tryz.underlying95 Tryz.underlying5;go_wp2_with(fail);clear kc;generalize hV:World.alloc _ _=V;have hTq7:fy V W.heap.size 0 86 crq7:=by rw[<-hV];exact txt_cr _ (by kernel_rfl) W _ _
 have heV:Ext W V:=by rw[<-hV];exact(Fr.refl _ _).alloc _
 clear hV;have HV:=ae (And.intro hTq7 heV);clear hTq7 heV;refine(parse_any crq7 W.heap.size 0 86 V crP.af crP.funcs 10 HV.o.1 (by decide) cr_lex.1 cr_lex.2.1 cr_lex.2.2 cr_prog (by decide) (by decide)).mono ?_;rintro e w1q7 ⟨MA,mn,mc,FA,fn,fc,z,rfl,hpa,hmc,hfc,hE1⟩;have H1:=ae (And.intro hpa (HV.o.2.trans hE1));have hs1:=(HV.o.2.trans hE1).size;clear hpa hE1 hmc hfc;go_upto_region 2 with(fail);generalize hX:World.alloc _ _=X;have hEX:Ext w1q7 X:=by rw[<-hX];exact(Fr.refl _ _).alloc _
 have hBX:an X w1q7.heap.size 27 #[.slice none 0 0,.slice MA mn mc,.slice FA fn fc]:=by rw[<-hX];exact an.new _ _ _
 have hpa:hG X (av X) crP none 0 MA mn FA fn:=by
  have hkq7:∀b,fresh V w1q7 b->X.heap[b]?=w1q7.heap[b]?:=λb hbq7=>hEX.block b hbq7.2 λh=>h;have hm:∀b,fresh V w1q7 b->av X b:=λb hbq7=>Nat.lt_of_lt_of_le hbq7.2 hEX.size;exact⟨Sl.bH _,(H1.o.1.m.al hkq7).mono hm,(H1.o.1.f.al hkq7).mono hm⟩
 have HX:=ae (And.intro hpa (H1.o.2.trans hEX));obtain⟨x0q7,x0f,x0l⟩:=hBX.two;clear hX hEX hBX hpa;go_wp2_with(fail);refine(lowerR crP cr_wf none 0 0 MA mn mc FA fn fc X HX.o.1).mono ?_;rintro e w2q7 ⟨GA,gn,gc,NA,nnq7,ncq7,PA,pn,pc,rfl,hrep,hE2⟩;have H2:=ae (And.intro hrep (HX.o.2.trans hE2));have hs2:=hE2.size;clear hrep hE2 x0q7 x0f x0l;go_upto_region 3 with(fail);generalize hYq7:World.alloc _ _=Y;have hEY:Ext w2q7 Y:=by rw[<-hYq7];exact(Fr.refl _ _).alloc _
 have hBY:an Y w2q7.heap.size 30 #[.slice GA gn gc,.slice NA nnq7 ncq7,.slice PA pn pc,.int .i64 (hZ crP).main]:=by rw[<-hYq7];exact an.new _ _ _
 have hWY:=H2.o.2.trans hEY;have HY:=ae (And.intro hEY (And.intro (HW.o.2.aj hWY) (HW.o.1.trans hWY)));obtain⟨y0q7,y0f,y0l⟩:=hBY.two;obtain⟨r0q7,r0f,r0l⟩:=HY.o.2.1.two;clear hYq7 hEY hBY hWY;go_wp2_with(fail);generalize hZq7:World.setCell _ _ _=Z;obtain⟨hBZ,hEZ,hFZ⟩:=cO (w:=w) [.slice GA gn gc,.slice NA nnq7 ncq7,.slice PA pn pc,.int .i64 (hZ crP).main] (by rfl) HY.o.2.1 HY.o.2.2 (Nat.le_refl _) hZq7;have hqq7:(⟨GA,gn,gc,NA,nnq7,ncq7,PA,pn,pc⟩:UV).Ok Z crU:=uvX (P:=fresh X w2q7) (D.aT (λb hbq7=>(hFZ.block b (mI HY.o.1.size hbq7.2) (mI HX.o.2.size hbq7.1)).trans (HY.o.1.block b hbq7.2 λh=>h)) _ _ H2.o.1) λb hbq7=>by have:=hFZ.size;have:=HY.o.1.size;have:=hbq7.2;omega
 have HZ:=ae (And.intro hqq7 hEZ);clear hZq7 hEZ hFZ r0q7 r0f r0l y0q7 y0f y0l hqq7;obtain⟨r0q7,r0f,r0l⟩:=hBZ.two;refine bodyPost_ret (v:=.agg #[.slice GA gn gc,.slice NA nnq7 ncq7,.slice PA pn pc,.int .i64 (hZ crP).main]) (by simp[results,Tryz.results23,go_sem,r0q7]) rfl ?_;exact⟨⟨GA,gn,gc,NA,nnq7,ncq7,PA,pn,pc⟩,rfl,HZ.o.1,HZ.o.2⟩
set_option maxRecDepth 1000000 in
set_option maxHeartbeats 3200000 in
theorem awake12(hAq7:AiC)(w:World)(ht:TabU w.heap.size w):Calls Tryz.prog 10 #[] w λe w'=>e=.returned (.bool true)/\Ext w w':=by
 have H:=ae (And.intro hAq7 ht);clear hAq7 ht;go_enter Tryz.func10,Tryz.ntmps10;go_wp2_with(fail);refine(crossed_any w).mono ?_;rintro e w1q7 ⟨p,rfl,hu,hE1⟩;have hs:=search_any crU w1q7 p 5 100 crU_ok H.o.1 hu (λw' hbq7=>(H.o.2.on hE1.ext) w' (hbq7.mono hE1.size));rw[cr_search] at hs;have H1:=ae (And.intro hs hE1);clear hs hu hE1;go_wp2_with(fail);refine H1.o.1.mono ?_;rintro e w2q7 ⟨A,n,d,rfl,hn,hd,hl,hE2⟩;obtain rfl:3=n:=hn;have H2:=ae (And.intro (show Sl w2q7 (av w2q7) A 3 (([0,0,1]:List Int).map D.i) from hl) (H1.o.2.trans hE2));clear hl hE2;go_wp2_with(fail);refine(crossed_any w2q7).mono ?_;rintro e w3q7 ⟨p2q7,rfl,hu,hE3⟩;have hE03:=H2.o.2.trans hE3;have hs:=states_any crU w3q7 p2q7 1 100 crU_ok H.o.1 hu (λw' hbq7=>(H.o.2.on hE03.ext) w' (hbq7.mono hE03.size));generalize hrq7:oQ crU 1 100=r at hs;have hr2:=cr_states;rw[hrq7] at hr2;obtain⟨out,all⟩:=r;obtain⟨hoq7,haq7⟩:out.length=2/\all=true:=hr2;subst haq7;have H3:=ae (And.intro hs (And.intro hE03 (And.intro (H2.o.1.on (Fr.ext hE3)) hoq7)));clear hs hu hE3 hE03 hrq7 hoq7;go_wp2_with(fail);refine H3.o.1.mono ?_;rintro e w4q7 ⟨B,m,d2,rfl,hm,hd2,hl,hE4⟩;obtain rfl:2=m:=by rw[<-H3.o.2.2.2];exact hm
 have H4:=ae (And.intro (H3.o.2.1.trans hE4) (H3.o.2.2.1.on (Fr.ext hE4)));clear hl hE4;go_wp2_with(fail);generalize hGq7:World.alloc _ _=G;have hEG:Ext w4q7 G:=by rw[<-hGq7];exact(Fr.refl _ _).alloc _
 have hBG:an G w4q7.heap.size 3 #[.int .i64 0,.int .i64 0,.int .i64 1]:=by rw[<-hGq7];exact an.new _ _ _
 have uj:Sl G (av G) (some ⟨w4q7.heap.size,0,none⟩) 3 (([0,0,1]:List Int).map D.i):=Sl.ru hBG (cB _) hBG.lt (by rfl);refine(sameInts_any A (some ⟨w4q7.heap.size,0,none⟩) 3 d 3 3 [0,0,1] [0,0,1] G (H4.o.2.on (Fr.ext hEG)) uj ad).mono ?_;rintro e w6q7 ⟨rfl,hE6⟩;have HG:=ae (H4.o.1.trans (hEG.trans (Fr.of hE6)));clear hGq7 hEG hBG uj hE6;go_wp2_with(fail);go_ret;exact⟨rfl,HG.o⟩
end
section
theorem Sl.know{w:World}{A:Option Addr}{n:Nat}{l:List Kn}(h:Sl w (av w) A n (l.map λk=>FR k.1)){j:Nat}(hjq7:j<n):∃b o x q,A=some ⟨b,o,none⟩/\b<w.heap.size/\l[j]?=some x/\SV.Ok q w x.1/\
  w.cell? ⟨b,o+j*4,none⟩=some (.slice q.GA q.gn q.gc)/\w.cell? ⟨b,o+j*4+1,none⟩=some (.slice q.TA q.tn q.tc)/\w.cell? ⟨b,o+j*4+2,none⟩=some (.slice q.HA q.hn q.hc)/\w.cell? ⟨b,o+j*4+3,none⟩=some (.int .i64 x.1.fault):=by
 obtain⟨b,o,x,cs,hAq7,hbq7,hx,hrq7,_,hc⟩:=Sl.gH (z:=4) (enc:=λk:Kn=>FR k.1) h (λ_=>rfl) hjq7;obtain⟨GA,gn,gc,TA,tn,tc,HA,hn,hcc,rfl,h1q7,h2q7,h3q7,h4q7⟩:=FT.1 hrq7;exact⟨b,o,x,⟨GA,gn,gc,TA,tn,tc,HA,hn,hcc⟩,hAq7,hbq7,hx,⟨h4q7,h1q7,h2q7,h3q7⟩,hc 0 _ rfl,hc 1 _ rfl,hc 2 _ rfl,hc 3 _ rfl⟩
theorem kn_small{u:ax}(hU:x0 u){steps most:Int}{k:Kn}(hkq7:k∈(oQ u steps most).1):Small k.1:=by
 obtain⟨h1q7,_,h3q7⟩:=(explore_ok u steps most).1.run k hkq7;have:=BU hU.ok k.2 0 (dO u) (C2 hU.ok);rw[h1q7] at this;exact this.small hU.ok ad
theorem tabX{w w':World}(h:TabU w.heap.size w)(he:Ext w w'):TabU w'.heap.size w':=λv hbq7=>(h.on he.ext) v (hbq7.mono he.size)
set_option maxRecDepth 1000000 in
set_option maxHeartbeats 3200000 in
theorem exploreDifferent_any(hAq7:AiC)(A:Option Addr)(n c:Nat)(l:List Int)(st moq7:Int)(w:World)(h:cJ (EF cD) 1 w w.heap.size A n l)(hc:n<=c)(ht:TabU w.heap.size w) :
  Calls Tryz.prog 3 #[.slice A n c,.int .i64 st,.int .i64 moq7] w λe w'=>e=.returned (.bool true)/\Below w.heap.size w w':=by
 have H:=ae (And.intro hAq7 (And.intro h ht));clear hAq7 h ht;go_enter Tryz.func3,Tryz.ntmps3;go_wp2_with(fail);refine(unit_any A n c l w H.o.2.1 hc).mono ?_;rintro e w1q7 ⟨u,b0q7,b1q7,b2q7,b3q7,b4,b5q7,m0q7,m1q7,m2q7,m3q7,m4q7,m5q7,d0,d1,d2,d3,d4,d5,GA,gn,gc,MA,mn,mc,PA,pn,pc,rfl,hU,_,_,_,hrep,hE1⟩;have hu1:(⟨GA,gn,gc,MA,mn,mc,PA,pn,pc⟩:UV).Ok w1q7 u:=uvX hrep λb hbq7=>hbq7.2;have H1:=ae (And.intro hU (And.intro hu1 hE1));clear hU hu1 hE1 hrep;go_upto_region 2 with(fail);generalize hX:World.alloc _ _=X;have hEX:Ext w1q7 X:=by rw[<-hX];exact(((Fr.refl _ _).alloc _).alloc _).alloc _
 have hBX:an X (w1q7.heap.size+1) 30 #[.slice GA gn gc,.slice MA mn mc,.slice PA pn pc,.int .i64 u.main]:=by rw[<-hX];exact(an.fu _ _ _ (by simp)).alloc _
 have hEw:=H1.o.2.2.trans hEX;have HX:=ae (And.intro (H1.o.2.1.on hEX) (And.intro hEw hBX));clear hX hEX hBX hEw;go_wp2_with(fail);refine(within_any moq7 80 ad ad X).mono ?_;rintro e X1 ⟨rfl,rfl⟩;have hwr:=rV (x:=moq7) (n:=80) ad;generalize within moq7 80=M at *;obtain⟨M1,hM1⟩:∃M1:Int,1+M=M1:=⟨_,rfl⟩
 have hMb:1<=M1/\M1<=80:=ad;have hwm:IntKind.i64.wrap (1+M)=M1:=by rw[<-hM1];exact IntWalk.i64_in _ ad
 go_upto_region 3 with(fail);clear hwm hM1 hwr;obtain⟨x0q7,x0f,x0l⟩:=HX.o.2.2.two;refine eB (λ_=>False) [(0,0),(1,3),(3,3),(2,1),(4,1),(5,3),(6,3),(7,3),(8,3),(9,3)] ?_;refine ph ?_
 iterate 2 refine pf ?_
 refine aD rfl (λK hK=>?_);go_simp;refine(within_any st 30 ad ad X.drew).mono ?_;rintro e X1 ⟨rfl,rfl⟩;refine dA hK (Fr.refl _ _) ?_;clear hK K;generalize within st 30=ST at *;have hs:=states_any u X.drew ⟨GA,gn,gc,MA,mn,mc,PA,pn,pc⟩ ST M1 H1.o.1 H.o.1 (HX.o.1.on (Fr.refl _ X).drew) (tabX H.o.2.2 (HX.o.2.1.trans (Fr.refl _ X).drew));have hok:=(explore_ok u ST M1).1;have hsm:=λk hkq7=>kn_small H1.o.1 (steps:=ST) (most:=M1) (k:=k) hkq7;generalize oQ u ST M1=r at *;obtain⟨out,all⟩:=r;have hfew:=hok.hW;have HS:=ae (And.intro hs (And.intro hok.diff hsm));clear hs hok hsm x0q7 x0f x0l;refine aD rfl (λK hK=>?_);go_simp;refine HS.o.1.mono ?_;rintro e w4q7 ⟨B,m,d,rfl,hm,hd,hl,hE4⟩;have hE4':=hE4;refine dA hK (hE4') ?_;clear hK K
 iterate 5 refine pf ?_
 refine aB ?_;have hm:out.length=m:=hm;have hmb:1<=m/\(m:Int)<=M1:=by
  have h1q7:=hfew;unfold o8 at h1q7;have h2q7:out.length=m:=hm;change 1<=out.length/\out.length<=_ at h1q7
  omega
 obtain⟨hm1,hm2⟩:=hmb;have H4:=ae (And.intro (show Sl w4q7 (av w4q7) B m (out.map λk=>FR k.1) from hl) (And.intro (HX.o.2.1.trans ((Fr.refl _ X).drew.trans hE4)) hm));clear hl hE4 hE4' hd hfew hm;go_wp2_with(fail);go_loopw [12] (λivq7 wr=>∃i:Nat,ivq7=.int .i64 i/\i<=m/\Ext w4q7 wr) (λivq7 _=>m - (intOf ivq7).toNat)
 case atStart=>exact⟨0,rfl,ad,Fr.refl _ _⟩
 case round=>
  obtain⟨i,rfl,hiq7,hEr⟩:=hrel;by_cases hlt:i<m
  .have hlt1:(i:Int)<(m:Int):=ad;have HR:=ae hEr;clear hEr;go_wp2_with(fail);go_loopw [13] (λivq7 wr=>∃k:Nat,ivq7=.int .i64 k/\k<=i/\Ext w4q7 wr) (λivq7 _=>i - (intOf ivq7).toNat)
   case atStart=>exact⟨0,rfl,ad,HR.o⟩
   case round=>
    obtain⟨k,rfl,hkq7,hEr⟩:=hrel;by_cases hlk:k<i
    .have hlk1:(k:Int)<(i:Int):=ad;have hkm:k<m:=ad;have hS:=H4.o.1.on (Fr.ext hEr);obtain⟨b,o,x,q,rfl,hbq7,hx,hqq7,c0,c1,c2,c3⟩:=hS.know hlt;obtain⟨b',o',y,q',hAq7,hb',hyq7,hq',e0,e1,e2,e3⟩:=hS.know hkm;injection hAq7 with hAq7;injection hAq7 with hA1 hA2;subst hA1 hA2;have hne:x.1≠y.1:=λhe=>by
      have h1q7:=List.getElem?_map (f:=λk:Kn=>k.1) (l:=out) (i:=i);have h2q7:=List.getElem?_map (f:=λk:Kn=>k.1) (l:=out) (i:=k);rw[hx] at h1q7;rw[hyq7] at h2q7;have h3q7:(out.map λk:Kn=>k.1)[i]?=(out.map λk:Kn=>k.1)[k]?:=by rw[h1q7,h2q7];simp[he]
      have:=(List.getElem?_inj (by have:=H4.o.2.2;simp;omega) HS.o.2.1).1 h3q7;omega
     have hsame:=rsame x.1 y.1 q q' wr.drew (hqq7.on (Fr.refl _ wr).drew) (hq'.on (Fr.refl _ wr).drew) (HS.o.2.2 x (List.mem_of_getElem? hx));have HK:=ae (And.intro hsame (And.intro hne hEr));clear hS hx hqq7 hyq7 hq' hne hsame hEr;go_upto_region 10 with(fail);refine eB (λ_=>False) [(0,3),(1,3),(2,3),(3,0),(4,3),(5,3),(6,3),(7,0),(8,1)] ?_
     iterate 3 refine pf ?_
     refine ph ?_
     iterate 3 refine pf ?_
     refine ph ?_;refine aD rfl (λK hK=>?_);go_simp;refine HK.o.1.mono ?_;rintro e w5q7 ⟨bb,rfl,hbb,hE5⟩;obtain rfl:bb=false:=by
      cases bb with
      | false=>rfl
      | true=>exact absurd (hbb.1 rfl) HK.o.2.1
     refine dA hK (hE5) ?_;clear hK K;refine aB ?_;have H5:=ae (HK.o.2.2.trans (Fr.aJ hE5));clear hE5 hbb c0 c1 c2 c3 e0 e1 e2 e3 HK;go_wp2_with(fail);go_roundw
     case rel=>exact⟨k+1,by go_num,ad,H5.o⟩
     case measure=>simp[intOf];omega
    .obtain rfl:k=i:=ad;have HK:=ae hEr;clear hEr;go_wp2_with(fail);go_roundw
     case rel=>exact⟨k+1,by go_num,ad,HK.o⟩
     case measure=>simp[intOf];omega
  .obtain rfl:i=m:=ad;have HK:=ae hEr;have HT:=ae (tabX H.o.2.2 (H4.o.2.1.trans hEr));clear hEr;go_wp2_with(fail);refine(awake12 H.o.1 wr HT.o).mono ?_;rintro e w8q7 ⟨rfl,hE8⟩;go_wp2_with(fail);go_ret;exact⟨rfl,Fr.ext ((H4.o.2.1.trans HK.o).trans hE8)⟩
end
end Go.Proofs.YtajlmkkidmjgoaaGreatDoor

/- Part 42 of the proof (AwA AwB Unt), without conditions of its own. -/
import Derived.Test.YtjhgbdckgkppnaaGreatQ24
import Derived.Test.YtjhgbdckgkppnaaGreatQ38
import Derived.Test.YtjhgbdckgkppnaaGreatQ40
import Derived.Test.YtjhgbdckgkppnaaGreatQ41
namespace Go.Proofs.YtjhgbdckgkppnaaGreat
open Go.RowKit Go.Proofs.Tryz
set_option maxRecDepth 1000000
set_option maxHeartbeats 25600000
set_option linter.unusedVariables false
variable{p:Prop}
def aw:ByteArray:=⟨#[109,117,116,101,120,32,97,59,32,102,117,110,99,32,109,97,105,110,40,41,32,123,32,108,111,99,107,32,97,59,32,108,111,99,107,32,97,59,32,125]⟩
def D0:ByteArray:=strOf [97]
def z2:bC:=⟨[],[⟨D0,false,0⟩],[⟨strOf [109,97,105,110],[],.lock false ⟨D0,none⟩ (.lock false ⟨D0,none⟩ .nil)⟩]⟩
theorem sO:(db aw.data.toList).1.length≤4001∧0<(db aw.data.toList).1.length∧(db aw.data.toList).2.2=0:=by decide +kernel
theorem BL:jl (db aw.data.toList).1 10 0=some (z2.af,z2.funcs):=by rfl
theorem Dw:mU z2:=by
 refine⟨?_,?_,by decide,by decide,by decide,?_,?_,?_,⟨0,_,rfl,rfl,rfl⟩,by decide⟩
 ·decide
 ·decide
 ·decide
 ·decide
 ·intro f aw;simp only[z2,GH] at aw;subst aw;refine⟨by decide,by decide,by decide,?_⟩;have aX:pN (gL z2 ⟨strOf [109,97,105,110],[],.lock false ⟨D0,none⟩ (.lock false ⟨D0,none⟩ .nil)⟩) (eD z2++cc []) ⟨D0,none⟩:=.inl ⟨⟨D0,false,0⟩,by simp[gL,z2],rfl,fun h=>absurd h (by decide),fun _=>rfl⟩;exact⟨aX,aX,trivial⟩
def oX:aF:=eH z2
theorem ih:vV oX:=⟨uJ Dw,uK z2⟩
def lK:an:=(ew oX (iE oX) 0).1
theorem D1:(ew oX (iE oX) 0).2=true:=by decide +kernel
theorem z5:(ew oX lK 0).2=false:=by decide +kernel
theorem z4:lK.table=[⟨1,1⟩]:=by rfl
theorem sN:a1 oX 1 lK:=Bp ih.ok (qo ih.ok)
theorem Fl{w:World}{P:Nat→Prop}{u:aF}{GA MA PA:GR}{gn gc mn mc pn pc:Nat}{m:Int}(h:(q5 u).rep w P [.slice GA gn gc,.slice MA mn mc,.slice PA pn pc,.int .i64 m])(U:∀b,P b→b<w.heap.size):(⟨GA,gn,gc,MA,mn,mc,PA,pn,pc⟩:UV).Ok w u:=by
 obtain⟨_,_,_,_,_,_,_,_,_,he,ac,J,aS,hu⟩:=kE (D.aP (c8:=au w) U _ _ h);injection he with e1 he;injection he with e2 he;injection he with e3 he;injection e1 with j y a3;injection e2 with av cW i;injection e3 with c1 c2 c3;subst j y a3 av cW i c1 c2 c3;exact⟨hu,ac,J,aS⟩
namespace zG
theorem gB(h:p:=by
 have b6:ag W w.heap.size 30 #[.slice none 0 0,.slice none 0 0,.slice none 0 0,.int .i64 0]:=bg▸GO;have aj:=ai av b6;have cH:=b6.lt;clear bg av b6;have kc:=run_bytes_of_string (P:=prog) W 9 131 5 s Tryz.underlying9 Tryz.underlying131 Tryz.underlying5;have a6:=grownCap_ge W s.size 0 5;generalize M:grownCap W s.size 0 5=cap at *;clear M;go_wp2_with (fail);generalize hV:World.alloc _ _=V;have aR:eG V W.heap.size 0 cap s:=by
  rw[←hV];exact uX W s cap a6 ad _ _
 have t:Ext W V:=hV▸GN.alloc _;have cg:=ai aR t;clear hV t kc aR;refine(vE s W.heap.size 0 cap V.drew p.af p.funcs a3 (cg.1.on GN.drew) hs H.1 H.2.1 H.2.2.1 H.2.2.2.1 H.2.2.2.2.2.ti (aB H.2.2.2.2.2.AT)).mono ?_;rintro e aH ⟨MA,mn,mc,FA,fn,fc,z,rfl,N,bS,bc,aI⟩;have j:Ext W aH:=cg.2.drew.trans aI;have H1:=ai N j;have b7:=j.size;clear N aI j bS bc;go_upto_region 2 with(fail);generalize ah:World.alloc _ _=X;have br:Ext aH X:=ah▸GN.alloc _;have bz:ag X aH.heap.size 27 #[.slice none 0 0,.slice MA mn mc,.slice FA fn fc]:=ah▸GO;have N:gr X (au X) p none 0 MA mn FA fn:=by
  have ap:∀b,fresh V.drew aH b→X.heap[b]?=aH.heap[b]?:=fun b O=>br.block b O.2 fun h=>h;have hm:∀b,fresh V.drew aH b→au X b:=fun b O=>Gc O.2 br.size;refine⟨?_,(H1.1.m.ao ap).mono hm,(H1.1.f.ao ap).mono hm⟩;rw[H.2.2.2.2.1];exact Sl.bu _
 have aU:=ai N (H1.2.trans br);obtain⟨bD,bE,b5⟩:=bz.two;clear ah br bz N;go_wp2_with (fail);refine(AN p H.2.2.2.2.2 none 0 0 MA mn mc FA fn fc X aU.1).mono ?_;rintro e aQ ⟨i,bh,bv,g,bB,bR,m,o,G,rfl,bQ,aO⟩;have bk:=ai bQ (aU.2.trans aO);have bK:=aO.size;clear bQ aO bD bE b5;go_upto_region 3 with(fail);generalize cb:World.alloc _ _=Y;have bw:Ext aQ Y:=cb▸GN.alloc _;have bA:ag Y aQ.heap.size 30 #[.slice i bh bv,.slice g bB bR,.slice m o G,.int .i64 (eH p).main]:=cb▸GO;have cW:=bk.2.trans bw;have bM:=aK bw (aj.2.al cW) (aj.1.trans cW);obtain⟨b8,an,ar⟩:=bA.two;obtain⟨bx,bd,be⟩:=bM.2.1.two;clear cb bw bA cW;go_wp2_with (fail);generalize ah:World.setCell _ _ _=Z;obtain⟨bm,a9,bn⟩:=cx (w:=w) [.slice i bh bv,.slice g bB bR,.slice m o G,.int .i64 (eH p).main] (by rfl) bM.2.1 bM.2.2 (Gb _) ah;have bu:(⟨i,bh,bv,g,bB,bR,m,o,G⟩:UV).Ok Z (eH p):=by
  refine Fl (P:=fresh X aQ) (D.bg (fun b O=>(bn.block b (kk bM.1.size O.2) (kk aU.2.size O.1)).trans (bM.1.block b O.2 fun h=>h)) _ _ bk.1) fun b O=>by have:=bn.size;have:=bM.1.size;have:=O.2;omega
 have bf:=ai bu a9;clear ah a9 bn bx bd be b8 an ar bu;obtain⟨bx,bd,be⟩:=bm.two;refine GM (v:=.agg #[.slice i bh bv,.slice g bB bR,.slice m o G,.int .i64 (eH p).main]) (by simp[results,Tryz.results47,go_sem,bx]) rfl ?_;exact⟨⟨i,bh,bv,g,bB,bR,m,o,G⟩,rfl,bf.1,bf.2⟩
 ):p:=h
end zG
open zG in
theorem Fk(s:ByteArray)(p:bC)(w:World)(a3:Nat)(hs:s.size≤4000)(hn:(db s.data.toList).1.length≤4001)(u:0<(db s.data.toList).1.length)(he:(db s.data.toList).2.2=0)(hp:jl (db s.data.toList).1 a3 0=some (p.af,p.funcs))(aM:p.globals=[])(hw:mU p) :
  Calls prog 47 #[.string s] w fun e ab=>∃q:UV,e=.returned (.agg (q.val (eH p)))∧q.Ok ab (eH p)∧Ext w ab:=by
 have H:=dz hn u he hp aM hw;clear hn u he hp aM hw;go_enter func47,ntmps47;exact gA
theorem nH(w:World)(p:UV)(q:SV)(hu:p.Ok w oX)(hs:q.Ok w (iE oX)):Calls prog 16 #[.agg (p.val oX),.agg (q.val (iE oX)),.int .i64 0] w (dE lp w lK true):=by
 have:=DE oX (iE oX) 0 0 w p q ih (qo ih.ok) ad hu hs;rw[D1] at this;exact this
theorem z3(w:World)(p:UV)(q:SV)(hu:p.Ok w oX)(hs:q.Ok w lK):Calls prog 16 #[.agg (p.val oX),.agg (q.val lK),.int .i64 0] w (dE lp w lK false):=by
 have:=DE oX lK 0 1 w p q ih sN ad hu hs;rw[oI z5,z5] at this;exact this
namespace zH
theorem gz(h:p:=by
 refine tf ?_;refine bU ?_;generalize bo:World.setCell _ _ _=Z;obtain⟨bm,a9,bn⟩:=cx (w:=X) [.slice cr I G,.slice x v t,.slice bs L bB,.int .i64 lK.fault] (by rfl) aq b3 gI bo;have T:(⟨cr,I,G,x,v,t,bs,L,bB⟩:SV).Ok Z lK:=(S.ao fun b O=>bn.block b O.2.1 O.2.2).ok fun b O=>by have:=bn.size;have:=O.2.1;omega
 have bf:=aK T a9 bm;obtain⟨bD,bE,b5⟩:=(aU.2.2.al a9).two;obtain⟨ax,m,n⟩:=bm.two;clear bo bm a9 bn T aq b3 gI S b8 an ar;go_wp2_with (fail);refine(z3 Z ⟨GA,gn,gc,MA,mn,mc,PA,pn,pc⟩ ⟨cr,I,G,x,v,t,bs,L,bB⟩ (aU.1.on bf.2.1) bf.1).mono ?_;rintro e cJ ⟨⟨af,ao,am,al,W,V,c6,hU,N⟩,rfl,r,cj⟩;have c4:=ai (r.ok fun b O=>(O.resolve_left fun h=>h).2) cj;clear r cj bD bE b5 ax m n;dsimp only[SV.val];go_upto_region 4 with(fail);generalize cb:World.alloc _ _=Y;have bw:Ext cJ Y:=cb▸GN.alloc _;have bA:ag Y cJ.heap.size 40 #[.slice af ao am,.slice al W V,.slice c6 hU N,.int .i64 lK.fault]:=cb▸GO;have l:=c4.2.trans bw;have ba:v=1:=by have:=bf.1.at_.t.1;simp only[Gf,z4] at this;exact this.symm
 have bM:=cA (bf.1.on l) (c4.1.on bw) l (aU.2.1.trans (bf.2.1.trans l)) (aU.1.on (bf.2.1.trans l));obtain⟨ax,m,n⟩:=(bf.2.2.al l).two;obtain⟨b8,an,ar⟩:=bA.two;have H:=sN.small ih.ok ad;subst ba;have aX:=ae H;clear cb bw bA l H;go_wp2_with (fail);refine(DD lK lK ⟨cr,I,G,x,1,t,bs,L,bB⟩ ⟨af,ao,am,al,W,V,c6,hU,N⟩ Y bM.1 bM.2.1 aX.o).mono ?_;rintro e cv ⟨bb,rfl,U,s⟩;obtain rfl:bb=true:=U.2 rfl;have y:=ae s;clear U b8 an ar ax m n;obtain⟨bD,bE,b5⟩:=(aU.2.2.al (bf.2.1.trans (bM.2.2.1.trans s))).two;obtain⟨ax,m,n⟩:=(bf.2.2.al (bM.2.2.1.trans s)).two;clear s;go_wp2_with (fail);refine(AR oX lK ⟨GA,gn,gc,MA,mn,mc,PA,pn,pc⟩ ⟨cr,I,G,x,1,t,bs,L,bB⟩ cv ih.ok.BB (bM.2.2.2.2.on y.o) (bM.1.on y.o) (by decide) (by decide) (by have:=bM.1.at_.h.1;simp only[Gf] at this;have J:lK.threads.length=1:=rfl;show L≤140737488355328;omega) (by decide)).mono ?_;rintro e fg ⟨bb,rfl,U,bC⟩;obtain rfl:bb=true:=U.2 (pM ih.ok sN);have ac:=ae (y.trans bC);have q:=y.trans bC;obtain⟨ap,to,aC,M,b0,u,t0,dc⟩:=((bM.1.on q).at_.t.holds).hold (k:=0) (by show 0<1;omega);rw[z4] at u;injection u with u;subst u;simp only at M;subst M;simp only[Nat.zero_mul,Gl] at t0 dc;have heq:=B4 1 1 1 1;clear U bD bE b5 ax m n;obtain⟨ax,m,n⟩:=(bf.2.2.al (bM.2.2.1.trans q)).two;clear bC q;go_wp2_with (fail);go_ret;exact⟨rfl,bM.2.2.2.1.trans ac.o⟩
 ):p:=h
end zH
open zH in
theorem D2(w:World):Calls prog 13 #[] w fun e ab=>e=.returned (.bool true)∧Ext w ab:=by
 go_enter func13,ntmps13;go_wp2_with (fail);refine(show Calls prog 47 #[.string aw] w _ from Fk aw z2 w 10 (by decide) sO.1 sO.2.1 sO.2.2 BL rfl Dw).mono ?_;rintro e aH ⟨⟨GA,gn,gc,MA,mn,mc,PA,pn,pc⟩,rfl,hu,aI⟩;have H1:=ai hu aI;clear hu aI;dsimp only[UV.val];go_upto_region 2 with(fail);generalize ah:World.alloc _ _=X;have br:Ext aH X:=ah▸GN.alloc _;have bz:ag X aH.heap.size 30 #[.slice GA gn gc,.slice MA mn mc,.slice PA pn pc,.int .i64 (eH z2).main]:=ah▸GO;have cR:=bz.lt;have aU:=aK (H1.1.on br) (H1.2.trans br) bz;obtain⟨bD,bE,b5⟩:=bz.two;clear ah br bz;refine o2 (fun _=>False) [8] (.held 0 (.held 1 (.pick [2,7] (fun i=>bif i == 2 then .pick [3,7] (fun i=>bif i == 3 then .free 4 (.free 5 (.free 6 (.pick [7] (fun _=>.pick [8] (fun _=>.free 9 (.stop)))))) else .pick [3] (fun _=>.free 4 (.free 5 (.free 6 (.pick [8] (fun _=>.free 9 (.stop))))))) else .pick [2] (fun _=>.pick [3] (fun _=>.free 4 (.free 5 (.free 6 (.pick [8] (fun _=>.free 9 (.stop))))))))))) ?_
 iterate 2 refine th ?_
 refine f4 (P:=?mM) (ops:=?gQ) (Q:=?gR) (R:=?gS) (tails:=?gT) (rest:=.pick [8] (fun _=>.free 9 (.stop))) (aa:=?gP)
  (C:=fun(aj:Nat) (z:Value) (Y:Value) bF=>Ext X bF∧ag bF aj 40 #[.slice none 0 0,.slice none 0 0,.slice none 0 0,.int .i64 0]∧X.heap.size≤aj∧∃o:SV,Y=.agg (o.val lK)∧o.Is bF (fun b=>X.heap.size≤b∧b<bF.heap.size∧b≠aj) lK) (fun key=>?gh) ?gg
 case gh=>
  refine aR ?_ ?_
  ·
   refine az rfl (fun K hK=>?_) rfl;go_simp;refine(Ed oX X.drew ⟨GA,gn,gc,MA,mn,mc,PA,pn,pc⟩ ih (aU.1.on (Fr.refl _ X).drew)).mono ?_;rintro e aQ ⟨dN,rfl,j,aO⟩;have f:=j.ok fun b O=>(O.resolve_left fun h=>h).2;clear j;refine hK _ _ (aO) ?_;clear hK K
   try simp only[PU]
   refine aR ?_ ?_
   ·
    refine az rfl (fun K hK=>?_) rfl;go_simp;refine(nH aQ ⟨GA,gn,gc,MA,mn,mc,PA,pn,pc⟩ dN (aU.1.on (Fr.aE aO)) f).mono ?_;rintro e bJ ⟨o,rfl,g,ay⟩;refine hK _ _ (ay) ?_;clear hK K
    try simp only[PU]
    iterate 3 refine tf ?_
    refine ak ?_;refine dU ?_;generalize bo:World.alloc _ _=Z;have e2:Ext bJ Z:=bo▸GN.alloc _;have aT:ag Z bJ.heap.size 40 #[.slice none 0 0,.slice none 0 0,.slice none 0 0,.int .i64 0]:=bo▸GO;have s2:=aO.size;have aW:=ay.size;have cY:=e2.size;have hd:X.drew.heap.size=X.heap.size:=rfl;have F:Ext X Z∧ag Z bJ.heap.size 40 #[.slice none 0 0,.slice none 0 0,.slice none 0 0,.int .i64 0]∧X.heap.size≤bJ.heap.size∧∃ej:SV,(Value.agg (o.val lK))=.agg (ej.val lK)∧ej.Is Z (fun b=>X.heap.size≤b∧b<Z.heap.size∧b≠bJ.heap.size) lK:=⟨((Fr.aE aO).trans ay).trans e2,aT,ad,o,rfl,(g.ao fun b O=>e2.block b (O.resolve_left fun h=>h).2 fun h=>h).mono fun b O=>by have:=O.resolve_left fun h=>h;omega⟩
    clear bo e2 aT g ay f aO s2 aW cY hd;revert F;generalize bJ.heap.size=aj;exact wo
   ·
    refine dU ?_;generalize bo:World.alloc _ _=Z;have e2:Ext aQ Z:=bo▸GN.alloc _;have aT:ag Z aQ.heap.size 40 #[.slice none 0 0,.slice none 0 0,.slice none 0 0,.int .i64 0]:=bo▸GO;have a3:=f.on e2;refine ak ?_;refine az rfl (fun K hK=>?_) rfl;go_simp;refine(nH Z ⟨GA,gn,gc,MA,mn,mc,PA,pn,pc⟩ dN (aU.1.on ((Fr.aE aO).trans e2)) a3).mono ?_;rintro e cy ⟨o,rfl,g,ay⟩;refine hK _ _ (ay) ?_;clear hK K
    try simp only[PU]
    iterate 3 refine tf ?_
    have s2:=aO.size;have aW:=ay.size;have cY:=aT.lt;have hd:X.drew.heap.size=X.heap.size:=rfl;have F:Ext X cy∧ag cy aQ.heap.size 40 #[.slice none 0 0,.slice none 0 0,.slice none 0 0,.int .i64 0]∧X.heap.size≤aQ.heap.size∧∃ej:SV,(Value.agg (o.val lK))=.agg (ej.val lK)∧ej.Is cy (fun b=>X.heap.size≤b∧b<cy.heap.size∧b≠aQ.heap.size) lK:=⟨((Fr.aE aO).trans e2).trans ay,aT.al ay,ad,o,rfl,g.mono fun b O=>by have:=O.resolve_left fun h=>h;omega⟩
    clear bo e2 aT g ay f a3 aO s2 aW cY hd;revert F;generalize aQ.heap.size=aj;exact wo
  ·
   refine ja ?_;generalize bo:World.drew (World.alloc _ _)=Z;have e2:Ext X Z:=bo▸(GN.alloc _).drew;have aT:ag Z X.heap.size 40 #[.slice none 0 0,.slice none 0 0,.slice none 0 0,.int .i64 0]:=bo▸GO;refine ak ?_;refine az rfl (fun K hK=>?_) rfl;go_simp;refine(Ed oX Z ⟨GA,gn,gc,MA,mn,mc,PA,pn,pc⟩ ih (aU.1.on e2)).mono ?_;rintro e aQ ⟨dN,rfl,j,aO⟩;have f:=j.ok fun b O=>(O.resolve_left fun h=>h).2;refine hK _ _ (aO) ?_;clear hK K
   try simp only[PU]
   refine ak ?_;refine az rfl (fun K hK=>?_) rfl;go_simp;refine(nH aQ ⟨GA,gn,gc,MA,mn,mc,PA,pn,pc⟩ dN (aU.1.on (e2.trans aO)) f).mono ?_;rintro e bJ ⟨o,rfl,g,ay⟩;refine hK _ _ (ay) ?_;clear hK K
   try simp only[PU]
   iterate 3 refine tf ?_
   have s2:=aO.size;have aW:=ay.size;have cY:=aT.lt;have F:Ext X bJ∧ag bJ X.heap.size 40 #[.slice none 0 0,.slice none 0 0,.slice none 0 0,.int .i64 0]∧X.heap.size≤X.heap.size∧∃ej:SV,(Value.agg (o.val lK))=.agg (ej.val lK)∧ej.Is bJ (fun b=>X.heap.size≤b∧b<bJ.heap.size∧b≠X.heap.size) lK:=⟨(e2.trans aO).trans ay,(aT.al aO).al ay,Gb _,o,rfl,g.mono fun b O=>by have:=O.resolve_left fun h=>h;omega⟩
   clear bo e2 aT g ay f j aO s2 aW cY;revert F key;generalize (Value.agg (o.val lK))=Y;generalize (Value.agg (dN.val (iE oX)))=z;intro key F;exact key X.heap.size z Y _ F
 case gg=>
  rintro aj z Y bF ⟨b3,aq,gI,⟨cr,I,G,x,v,t,bs,L,bB⟩,rfl,S⟩;dsimp only[SV.val];obtain⟨b8,an,ar⟩:=aq.two;clear bD bE b5;exact gy
theorem A4(A:GR)(n c:Nat)(l:List Int)(w:World)(h:cG (EF dB) 1 w w.heap.size A n l)(hc:n≤c):Calls prog 24 #[.slice A n c] w (jh w):=
 F8 A n c l w h hc fun K hK=>FJ w (.slice A n c) (fun bI a=>FK w (.slice A n c) _ (fun _ _ d _ _ h=>by cases d<;>exact h) (fun bq a6 ac J=>FL w (.slice A n c) bq a6 ac J) bI a) K hK
def EM(w:World)(e:Ending)(ab:World):Prop:=∃(u:aF) (a7 av cW i b4 k:GR) (hO cM c9 a8 ao b0 a6 ca aP cx dd de:Nat) (GA:GR) (gn gc:Nat) (MA:GR) (mn mc:Nat) (PA:GR) (pn pc:Nat),e=.returned (.tuple #[.agg #[.slice a7 hO a6,.slice av cM ca,.slice cW c9 aP],.agg #[.slice GA gn gc,.slice MA mn mc,.slice PA pn pc,.int .i64 u.main],.agg #[.slice i a8 cx,.slice b4 ao dd,.slice k b0 de]])∧vV u∧gn≤gc∧mn≤mc∧pn≤pc∧(q5 u).rep ab (fresh w ab) [.slice GA gn gc,.slice MA mn mc,.slice PA pn pc,.int .i64 u.main]∧Ext w ab
namespace zO
theorem di(h:p:=by
 go_wp2_with (fail);generalize ab:World.setCell _ _ _=iy;obtain⟨ak,b3,z⟩:=dA (M:=fun _=>False) (w:=w) [.slice el n0 c0,.slice cC n1 c1,.slice A2 bl c2] (by rfl) f t.1 ad ab;have U:=t.2.2.1.on z ad;have aR:=t.2.2.2.on z ad;have bn:Fr (fun b=>b<w.heap.size+3) Z iy:=t.2.1.trans (z.mono fun b O=>ad);have bf:=ai b3 bn;clear ab b3 z f bn t bx bd be;obtain⟨bx,bd,be⟩:=U.two;obtain⟨u,ao,ap⟩:=aR.two;obtain⟨t0,aq,ar⟩:=ak.two;refine GM (v:=.tuple #[.agg #[.slice GA gn gc,.slice MA mn mc,.slice FA fn fc],.agg #[.slice i bh bv,.slice g bB bR,.slice m o G,.int .i64 (eH p).main],.agg #[.slice el n0 c0,.slice cC n1 c1,.slice A2 bl c2]]) (by simp[results,Tryz.results7,go_sem,bx,u,t0]) rfl ?_;refine⟨eH p,?_⟩
 iterate 18 apply Exists.intro
 refine⟨i,bh,bv,g,bB,bR,m,o,G,rfl,⟨bw.o,uK p⟩,?_,?_,?_,?_,bf.1.drew⟩
 iterate 3
  ·obtain⟨_,_,_,_,_,_,_,_,_,he,ac,J,aS,_⟩:=kE cw.1;injection he with e1 he;injection he with e2 he;injection he with e3 he;injection e1 with _ ea eb;injection e2 with _ ec ed;injection e3 with _ ee S;omega
 have bN:=bf.2.size;have cc:(q5 (eH p)).rep iy.drew (fresh X aQ) [.slice i bh bv,.slice g bB bR,.slice m o G,.int .i64 (eH p).main]:=D.bg (fun b O=>bf.2.drew.block b (aB O.2) (aB O.1)) _ _ cw.1;exact D.aP (fun b O=>⟨by have:=O.1;omega,by have:=O.2;show b<iy.heap.size;omega⟩) _ _ cc
 ):p:=h
theorem iT(h:p:=by
 have bD:ag W w.heap.size 27 #[.slice none 0 0,.slice none 0 0,.slice none 0 0]:=bg▸((GO).alloc _).alloc _;have bL:ag W (w.heap.size+1) 30 #[.slice none 0 0,.slice none 0 0,.slice none 0 0,.int .i64 0]:=bg▸(ag.bR _ _ _ (by simp)).alloc _;have b1:ag W (w.heap.size+1+1) 34 #[.slice none 0 0,.slice none 0 0,.slice none 0 0]:=bg▸ag.bR _ _ _ (by simp);have cH:W.heap.size=w.heap.size+3:=by rw[←bg];simp
 have ck:=H.cZ (Fr.ext av) av.size;have aj:=bO av bD bL b1;have b0:=ae ck;clear bg av bD bL b1 ck H;go_wp2_with (fail);refine(A4 A n c l W b0.o hc).mono ?_;rintro e aH ⟨p,GA,gn,gc,MA,mn,mc,FA,fn,fc,rfl,aJ,aF,bS,bc,aM,hm,aw,aI⟩;have H1:=cA aJ aM hm aw aI;have b7:=aI.size;clear aJ aM hm aw aI b0;go_upto_region 2 with(fail);generalize ah:World.alloc _ _=X;have ca:ag X aH.heap.size 27 #[.slice GA gn gc,.slice MA mn mc,.slice FA fn fc]:=ah▸GO;have cj:Ext aH X:=ah▸GN.alloc _;have fE:=cj.size;have am:=ca.lt;obtain⟨a6,aL,aP⟩:=ca.two;have N:gr X (au X) p GA gn MA mn FA fn:=⟨(Sl.ao H1.2.1 fun b O=>cj.block b O.2 (fun h=>h)).mono fun b O=>Gc O.2 fE,(Sl.ao H1.2.2.1 fun b O=>cj.block b O.2 (fun h=>h)).mono fun b O=>Gc O.2 fE,(Sl.ao H1.2.2.2.1 fun b O=>cj.block b O.2 (fun h=>h)).mono fun b O=>Gc O.2 fE⟩
 have c4:=aK N ca (H1.2.2.2.2.trans cj);clear ah ca cj N;go_wp2_with (fail);refine(AN p H1.1 GA gn gc MA mn mc FA fn fc X c4.1).mono ?_;rintro e aQ ⟨i,bh,bv,g,bB,bR,m,o,G,rfl,bQ,aO⟩;have bK:=aO.size;have Q:=c4.2.1.al aO;have bk:=aK bQ Q (c4.2.2.trans aO);clear bQ aO Q a6 aL aP;go_upto_region 3 with(fail);generalize cb:World.alloc _ _=Y;have cq:ag Y aQ.heap.size 30 #[.slice i bh bv,.slice g bB bR,.slice m o G,.int .i64 (eH p).main]:=cb▸GO;have s:Ext aQ Y:=cb▸GN.alloc _;have bA:=s.size;have an:=cq.lt;obtain⟨a6,aL,aP⟩:=cq.two;have bQ:(q5 (eH p)).rep Y (fresh X aQ) [.slice i bh bv,.slice g bB bR,.slice m o G,.int .i64 (eH p).main]:=D.bg (fun b O=>s.block b O.2 (fun h=>h)) _ _ bk.1;have af:gv Y (au Y) (eH p) i bh g bB m o:=by
  obtain⟨_,_,_,_,_,_,_,_,_,he,_,_,_,hu⟩:=kE (D.aP (c8:=au Y) (fun b O=>Gc O.2 bA) _ _ bQ);injection he with ac he;injection he with J he;injection he with aS he;injection ac with aV O hc;injection J with I bt ce;injection aS with L bz aW;subst aV O I bt L bz;exact hu
 have y:=cA bQ af cq (bk.2.1.al s) (bk.2.2.trans s);have bw:=ae (uJ H1.1);clear cb cq s bQ af bk;go_wp2_with (fail);refine(va (eH p) bw.o i bh bv g bB bR m o G Y y.2.1).mono ?_;rintro e bJ ⟨el,n0,c0,cC,n1,c1,A2,bl,c2,k,rfl,ay⟩;have cB:=ay.size;have bH:=bO (D.bg (fun b O=>ay.block b (Gc O.2 bA) (fun h=>h)) _ _ y.1) (y.2.2.1.al ay) (y.2.2.2.1.al ay) (y.2.2.2.2.trans ay);clear ay a6 aL aP y;go_upto_region 4 with(fail);generalize bo:World.alloc _ _=Z;have bT:ag Z bJ.heap.size 34 #[.slice el n0 c0,.slice cC n1 c1,.slice A2 bl c2]:=bo▸GO;have a2:Ext bJ Z:=bo▸GN.alloc _;have g6:=a2.size;have g6:=a2.size;have bQ:=D.bg (fun b O=>a2.block b (Gc O.2 (Gu bA cB)) (fun h=>h)) _ _ bH.1;have cq:=bH.2.1.al a2;have ca:=bH.2.2.1.al a2;have F:Ext W Z:=bH.2.2.2.trans a2;have P:=aj.2.1.al F;have b5:=aj.2.2.1.al F;have f:=aj.2.2.2.al F;have cw:=ai bQ (aj.1.trans F);have a4:=aK ca cq bT;have aZ:=ai b5 f;obtain⟨bx,bd,be⟩:=P.two;have al:=bT.lt;clear bo a2 bQ bH F b5 f ca cq bT;refine eh (fun b=>b<w.heap.size+3) [(0,0),(1,0),(2,0),(3,1),(4,1),(5,2)] ?_;refine bm (v:=?_) rfl (by rfl) (fun V hV=>?_) ?_;rotate_left
 ·obtain⟨a6,aL,aP⟩:=(a4.1.on (Fr.aE hV) ad).two
  (go_simp<;>with_reducible rfl)
 try simp only[PU]
 refine bm (v:=?_) rfl (by rfl) (fun V hV=>?_) ?_;rotate_left
 ·obtain⟨a6,aL,aP⟩:=(a4.2.1.on (Fr.aE hV) ad).two
  (go_simp<;>with_reducible rfl)
 try simp only[PU]
 refine bm (v:=?_) rfl (by rfl) (fun V hV=>?_) ?_;rotate_left
 ·obtain⟨a6,aL,aP⟩:=(a4.2.2.on (Fr.aE hV) ad).two
  (go_simp<;>with_reducible rfl)
 try simp only[PU]
 refine aA rfl (fun K hK=>?_);go_simp;refine hK _ _ (((GN.setCell (.inl (by show w.heap.size<w.heap.size+3;omega)) _).setCell (.inl (by show w.heap.size<w.heap.size+3;omega)) _).setCell (.inl (by show w.heap.size<w.heap.size+3;omega)) _) ?_;clear hK K
 try simp only[PU]
 generalize R:World.setCell _ _ _=cS;obtain⟨U,aO,aa⟩:=dA (M:=fun _=>False) (w:=w) [.slice GA gn gc,.slice MA mn mc,.slice FA fn fc] (by rfl) P cw.2 (Gb _) R;have b5:=aZ.1.on aa ad;have f:=aZ.2.on aa ad;have j:=bO aO (Fr.mono (M':=fun b=>b<w.heap.size+3) aa fun b O=>ad) U f;clear R aO aa U f P bx bd be;obtain⟨bx,bd,be⟩:=b5.two;refine aA rfl (fun K hK=>?_);go_simp;refine hK _ _ (((GN.setCell (.inl (by show w.heap.size+1<w.heap.size+3;omega)) _).setCell (.inl (by show w.heap.size+1<w.heap.size+3;omega)) _).setCell (.inl (by show w.heap.size+1<w.heap.size+3;omega)) _ |>.setCell (.inl (by show w.heap.size+1<w.heap.size+3;omega)) _) ?_;clear hK K
 try simp only[PU]
 generalize T:World.setCell _ _ _=hb;obtain⟨aR,ay,r⟩:=dA (M:=fun _=>False) (w:=w) [.slice i bh bv,.slice g bB bR,.slice m o G,.int .i64 (eH p).main] (by rfl) b5 j.1 ad T;have f:=j.2.2.2.on r ad;have t:=bO ay (j.2.1.trans (r.mono fun b O=>ad)) (j.2.2.1.on r ad) aR;clear T ay r aR b5 j bx bd be;obtain⟨bx,bd,be⟩:=f.two;exact dN
 ):p:=h
end zO
open zO in
theorem Bw(A:GR)(n c:Nat)(l:List Int)(w:World)(h:cG (EF dB) 1 w w.heap.size A n l)(hc:n≤c):Calls prog 7 #[.slice A n c] w (EM w):=by
 have H:=ae h;clear h;go_enter func7,ntmps7;exact iS
end Go.Proofs.YtjhgbdckgkppnaaGreat

/- Part 42 of the proof. No condition of its own. -/
import Derived.Test.YtnhhdaggkiomoaaGreatQ26
import Derived.Test.YtnhhdaggkiomoaaGreatQ40
import Derived.Test.YtnhhdaggkiomoaaGreatQ41
namespace Go.Proofs.YtnhhdaggkiomoaaGreat
open Go.RowKit Go.Proofs.Tryz
set_option maxRecDepth 1000000
set_option maxHeartbeats 25600000
set_option linter.unusedVariables false
variable{p:Prop}
def aw:ByteArray:=⟨#[109,117,116,101,120,32,97,59,32,102,117,110,99,32,109,97,105,110,40,41,32,123,32,108,111,99,107,32,97,59,32,108,111,99,107,32,97,59,32,125]⟩
def Hf:ByteArray:=strOf [97]
def EK:bM:=⟨[],[⟨Hf,false,0⟩],[⟨strOf [109,97,105,110],[],.lock false ⟨Hf,none⟩ (.lock false ⟨Hf,none⟩ .nil)⟩]⟩
theorem vF:(dt aw.data.toList).1.length≤4001∧0<(dt aw.data.toList).1.length∧(dt aw.data.toList).2.2=0:=by decide +kernel
theorem EX:kh (dt aw.data.toList).1 10 0=some (EK.af,EK.funcs):=by rfl
theorem GC:ox EK:=by
 refine⟨?_,?_,by decide,by decide,by decide,?_,?_,?_,⟨0,_,rfl,rfl,rfl⟩,by decide⟩
 ·decide
 ·decide
 ·decide
 ·decide
 ·intro f J;simp only[EK,Li] at J;subst J;refine⟨by decide,by decide,by decide,?_⟩;have a5:rX (hW EK ⟨strOf [109,97,105,110],[],.lock false ⟨Hf,none⟩ (.lock false ⟨Hf,none⟩ .nil)⟩) (fo EK++ct []) ⟨Hf,none⟩:=.inl ⟨⟨Hf,false,0⟩,by simp[hW,EK],rfl,fun h=>absurd h (by decide),fun _=>rfl⟩;exact⟨a5,a5,trivial⟩
def qV:ay:=gi EK
theorem jf:uW qV:=⟨xG GC,xH EK⟩
def m8:aj:=(bB qV (dA qV) 0).1
theorem Hg:(bB qV (dA qV) 0).2=true:=by decide +kernel
theorem Dg:(bB qV m8 0).2=false:=by decide +kernel
theorem Df:m8.table=[⟨1,1⟩]:=by rfl
theorem vE:aX qV 1 m8:=mT jf.ok (oM jf.ok)
theorem HL{w:World}{P:Nat→Prop}{u:ay}{GA MA PA:Ls}{gn gc mn mc pn pc:Nat}{m:Int}(h:(tG u).rep w P [.slice GA gn gc,.slice MA mn mc,.slice PA pn pc,.int .i64 m])(aZ:∀b,P b→b<w.heap.size):(⟨GA,gn,gc,MA,mn,mc,PA,pn,pc⟩:UV).Ok w u:=by
 obtain⟨_,_,_,_,_,_,_,_,_,he,ac,av,aV,hu⟩:=lT (D.aL (c5:=au w) aZ _ _ h);injection he with e1 he;injection he with e2 he;injection he with e3 he;injection e1 with q y a3;injection e2 with am cF v;injection e3 with c1 c2 c3;subst q y a3 am cF v c1 c2 c3;exact⟨hu,ac,av,aV⟩
theorem IS(s:ByteArray)(p:bM)(w:World)(aH:Nat)(hs:s.size≤4000)(hn:(dt s.data.toList).1.length≤4001)(aM:0<(dt s.data.toList).1.length)(he:(dt s.data.toList).2.2=0)(hp:kh (dt s.data.toList).1 aH 0=some (p.af,p.funcs))(a2:p.globals=[])(hw:ox p) :
  Calls prog 48 #[.string s] w fun e ab=>∃q:UV,e=.returned (.agg (q.val (gi p)))∧q.Ok ab (gi p)∧Ext w ab:=by
 have H:=cT hn aM he hp a2 hw;clear hn aM he hp a2 hw;go_enter func48,ntmps48;go_upto_region 1 with(fail);generalize ba:World.alloc _ _=W;have aw:=aU ba;have cA:=aG ba;have ah:=ag aw cA;have cY:=cA.lt;clear ba aw cA;have kc:=run_bytes_of_string (P:=prog) W 9 136 5 s Tryz.underlying9 Tryz.underlying136 Tryz.underlying5;have a1:=grownCap_ge W s.size 0 5;generalize M:grownCap W s.size 0 5=cap at *;clear M;go_wp2_with(fail);generalize hV:World.alloc _ _=V;have hT:ft V W.heap.size 0 cap s:=by
  rw[←hV];exact x1 W s cap a1 ad _ _
 have L:=aU hV;have cc:=ag hT L;clear hV L kc hT;refine(yD s W.heap.size 0 cap V.drew p.af p.funcs aH (cc.1.on Lo.drew) hs H.1 H.2.1 H.2.2.1 H.2.2.2.1 H.2.2.2.2.2.wi (aD H.2.2.2.2.2.D0)).mono ?_;rintro e aS ⟨MA,mn,mc,FA,fn,fc,z,rfl,I,co,aC,aN⟩;have g:Ext W aS:=cc.2.drew.trans aN;have H1:=ag I g;have cn:=g.size;clear I aN g co aC;go_upto_region 2 with(fail);generalize hX:World.alloc _ _=X;have br:=aU hX;have bo:=aG hX;have I:hk X (au X) p none 0 MA mn FA fn:=by
  have ap:∀b,fresh V.drew aS b→X.heap[b]?=aS.heap[b]?:=fun b O=>br.block b O.2 fun h=>h;have hm:∀b,fresh V.drew aS b→au X b:=fun b O=>KH O.2 br.size;refine⟨?_,(H1.1.m.ak ap).mono hm,(H1.1.f.ak ap).mono hm⟩;rw[H.2.2.2.2.1];exact Sl.bO _
 have aQ:=ag I (H1.2.trans br);obtain⟨bs,aX,a4⟩:=bo.two;clear hX br bo I;go_wp2_with(fail);refine(DV p H.2.2.2.2.2 none 0 0 MA mn mc FA fn fc X aQ.1).mono ?_;rintro e aT ⟨i,bB,bQ,j,dh,cj,m,o,u,rfl,bU,a3⟩;have bG:=ag bU (aQ.2.trans a3);have bO:=a3.size;clear bU a3 bs aX a4;go_upto_region 3 with(fail);generalize cr:World.alloc _ _=Y;have bE:=aU cr;have bI:=aG cr;have bn:=bG.2.trans bE;have bC:=aB bE (ah.2.ai bn) (ah.1.trans bn);obtain⟨cE,N,aF⟩:=bI.two;obtain⟨bl,aA,aO⟩:=bC.2.1.two;clear cr bE bI bn;go_wp2_with(fail);generalize hX:World.setCell _ _ _=Z;obtain⟨bh,a9,be⟩:=bA (w:=w) [.slice i bB bQ,.slice j dh cj,.slice m o u,.int .i64 (gi p).main] (by rfl) bC.2.1 bC.2.2 (KG _) hX;have bK:(⟨i,bB,bQ,j,dh,cj,m,o,u⟩:UV).Ok Z (gi p):=by
  refine HL (P:=fresh X aT) (D.aS (fun b O=>(be.block b (lK bC.1.size O.2) (lK aQ.2.size O.1)).trans (bC.1.block b O.2 fun h=>h)) _ _ bG.1) fun b O=>by have:=be.size;have:=bC.1.size;have:=O.2;omega
 have bd:=ag bK a9;clear hX a9 be bl aA aO cE N aF bK;obtain⟨bl,aA,aO⟩:=bh.two;refine Ln (v:=.agg #[.slice i bB bQ,.slice j dh cj,.slice m o u,.int .i64 (gi p).main]) (by simp[results,Tryz.results48,go_sem,bl]) rfl ?_;exact⟨⟨i,bB,bQ,j,dh,cj,m,o,u⟩,rfl,bd.1,bd.2⟩
theorem pA(w:World)(p:UV)(q:SV)(hu:p.Ok w qV)(hs:q.Ok w (dA qV)):Calls prog 13 #[.agg (p.val qV),.agg (q.val (dA qV)),.int .i64 0] w (cG mf w m8 true):=by
 have:=tX qV (dA qV) 0 0 w p q jf (oM jf.ok) ad hu hs;rw[Hg] at this;exact this
theorem De(w:World)(p:UV)(q:SV)(hu:p.Ok w qV)(hs:q.Ok w m8):Calls prog 13 #[.agg (p.val qV),.agg (q.val m8),.int .i64 0] w (cG mf w m8 false):=by
 have:=tX qV m8 0 1 w p q jf vE ad hu hs;rw[j4 Dg,Dg] at this;exact this
namespace CG
theorem eQ(h:p:=by
 refine tf ?_;refine b3 ?_;generalize bu:World.setCell _ _ _=Z;obtain⟨bh,a9,be⟩:=bA (w:=X) [.slice an aE ax,.slice bf s j,.slice bR al bc,.int .i64 m8.fault] (by rfl) dI cw gs bu;have J:(⟨an,aE,ax,bf,s,j,bR,al,bc⟩:SV).Ok Z m8:=(I.ak fun b O=>be.block b O.2.1 O.2.2).ok fun b O=>by have:=be.size;have:=O.2.1;omega
 have bd:=aB J a9 bh;obtain⟨bs,aX,a4⟩:=(aQ.2.2.ai a9).two;obtain⟨aJ,f,o⟩:=bh.two;clear bu bh a9 be J dI cw gs I cE N aF;go_wp2_with(fail);refine(De Z ⟨GA,gn,gc,MA,mn,mc,PA,pn,pc⟩ ⟨an,aE,ax,bf,s,j,bR,al,bc⟩ (aQ.1.on bd.2.1) bd.1).mono ?_;rintro e c6 ⟨⟨ap,aI,aH,aA,ai,M,cx,hf,x⟩,rfl,ac,bX⟩;have z:=ag (ac.ok fun b O=>(O.resolve_left fun h=>h).2) bX;clear ac bX bs aX a4 aJ f o;dsimp only[SV.val];go_upto_region 4 with(fail);generalize cr:World.alloc _ _=Y;have bE:=aU cr;have bI:=aG cr;have m:=z.2.trans bE;have cH:s=1:=by have:=bd.1.at_.t.1;simp only[KK,Df] at this;exact this.symm
 have bC:=cI (bd.1.on m) (z.1.on bE) m (aQ.2.1.trans (bd.2.1.trans m)) (aQ.1.on (bd.2.1.trans m));obtain⟨aJ,f,o⟩:=(bd.2.2.ai m).two;obtain⟨cE,N,aF⟩:=bI.two;have a1:=vE.small jf.ok ad;subst cH;have a8:=ae a1;clear cr bE bI m a1;go_wp2_with(fail);refine(IC m8 m8 ⟨an,aE,ax,bf,1,j,bR,al,bc⟩ ⟨ap,aI,aH,aA,ai,M,cx,hf,x⟩ Y bC.1 bC.2.1 a8.o).mono ?_;rintro e cQ ⟨bb,rfl,U,g⟩;obtain rfl:bb=true:=U.2 rfl;have af:=ae g;clear U cE N aF aJ f o;obtain⟨bs,aX,a4⟩:=(aQ.2.2.ai (bd.2.1.trans (bC.2.2.1.trans g))).two;obtain⟨aJ,f,o⟩:=(bd.2.2.ai (bC.2.2.1.trans g)).two;clear g;go_wp2_with(fail);refine(Hp qV m8 ⟨GA,gn,gc,MA,mn,mc,PA,pn,pc⟩ ⟨an,aE,ax,bf,1,j,bR,al,bc⟩ cQ jf.ok.yW (bC.2.2.2.2.on af.o) (bC.1.on af.o) (by decide) (by decide) (by have:=bC.1.at_.h.1;simp only[KK] at this;have av:m8.threads.length=1:=rfl;show al≤140737488355328;omega) (by decide)).mono ?_;rintro e fn ⟨bb,rfl,U,aD⟩;obtain rfl:bb=true:=U.2 (yO jf.ok vE);have u:=ae (af.trans aD);have n:=af.trans aD;obtain⟨y,to,ay,v,cM,q,t0,t1⟩:=((bC.1.on n).at_.t.holds).hold (k:=0) (by show 0<1;omega);rw[Df] at q;injection q with q;subst q;simp only at v;subst v;simp only[Nat.zero_mul,KQ] at t0 t1;have heq:=Fe 1 1 1 1;clear U bs aX a4 aJ f o;obtain⟨aJ,f,o⟩:=(bd.2.2.ai (bC.2.2.1.trans n)).two;clear aD n;go_wp2_with(fail);go_ret;exact⟨rfl,bC.2.2.2.1.trans u.o⟩
 ):p:=h
theorem AY(h:p:=by
 have hd:X.drew.heap.size=X.heap.size:=rfl;have F:Ext X Z∧aq Z b6.heap.size 40 #[.slice none 0 0,.slice none 0 0,.slice none 0 0,.int .i64 0]∧X.heap.size≤b6.heap.size∧∃cB:SV,(Value.agg (ar.val m8))=.agg (cB.val m8)∧cB.Is Z (fun b=>X.heap.size≤b∧b<Z.heap.size∧b≠b6.heap.size) m8:=⟨((Fr.aF a3).trans a7).trans e2,aR,ad,ar,rfl,(r.ak fun b O=>e2.block b (O.resolve_left fun h=>h).2 fun h=>h).mono fun b O=>by have:=O.resolve_left fun h=>h;omega⟩
 clear bu e2 aR r a7 L a3 s2 T eD hd;revert F;generalize b6.heap.size=az;exact zs
 ):p:=h
end CG
open CG in
theorem sD(w:World):Calls prog 16 #[] w fun e ab=>e=.returned (.bool true)∧Ext w ab:=by
 go_enter func16,ntmps16;go_wp2_with(fail);refine(show Calls prog 48 #[.string aw] w _ from IS aw EK w 10 (by decide) vF.1 vF.2.1 vF.2.2 EX rfl GC).mono ?_;rintro e aS ⟨⟨GA,gn,gc,MA,mn,mc,PA,pn,pc⟩,rfl,hu,aN⟩;have H1:=ag hu aN;clear hu aN;dsimp only[UV.val];go_upto_region 2 with(fail);generalize hX:World.alloc _ _=X;have br:=aU hX;have bo:=aG hX;have H:=bo.lt;have aQ:=aB (H1.1.on br) (H1.2.trans br) bo;obtain⟨bs,aX,a4⟩:=bo.two;clear hX br bo;refine q4 (fun _=>False) [8] (.held 0 (.held 1 (.pick [2,7] (fun i=>bif i == 2 then .pick [3,7] (fun i=>bif i == 3 then .free 4 (.free 5 (.free 6 (.pick [7] (fun _=>.pick [8] (fun _=>.free 9 (.stop)))))) else .pick [3] (fun _=>.free 4 (.free 5 (.free 6 (.pick [8] (fun _=>.free 9 (.stop))))))) else .pick [2] (fun _=>.pick [3] (fun _=>.free 4 (.free 5 (.free 6 (.pick [8] (fun _=>.free 9 (.stop))))))))))) ?_
 iterate 2 refine th ?_
 refine gU (P:=?oB) (ops:=?Hu) (Q:=?Hw) (R:=?Hy) (tails:=?HI) (rest:=.pick [8] (fun _=>.free 9 (.stop))) (aa:=?G6)
  (C:=fun(az:Nat) (G:Value) (Y:Value) bT=>Ext X bT∧aq bT az 40 #[.slice none 0 0,.slice none 0 0,.slice none 0 0,.int .i64 0]∧X.heap.size≤az∧∃ar:SV,Y=.agg (ar.val m8)∧ar.Is bT (fun b=>X.heap.size≤b∧b<bT.heap.size∧b≠az) m8) (fun key=>?wa) ?vY
 case wa=>
  refine aY ?_ ?_
  ·
   refine aC rfl (fun K hK=>?_) rfl;go_simp;refine(Iz qV X.drew ⟨GA,gn,gc,MA,mn,mc,PA,pn,pc⟩ jf (aQ.1.on (Fr.refl _ X).drew)).mono ?_;rintro e aT ⟨ci,rfl,l,a3⟩;have L:=l.ok fun b O=>(O.resolve_left fun h=>h).2;clear l;refine dz hK (a3) ?_;clear hK K;refine aY ?_ ?_
   ·
    refine aC rfl (fun K hK=>?_) rfl;go_simp;refine(pA aT ⟨GA,gn,gc,MA,mn,mc,PA,pn,pc⟩ ci (aQ.1.on (Fr.aF a3)) L).mono ?_;exact AX
   ·
    refine dP ?_;generalize bu:World.alloc _ _=Z;have e2:=aU bu;have aR:=aG bu;have ep:=L.on e2;refine ao ?_;refine aC rfl (fun K hK=>?_) rfl;go_simp;refine(pA Z ⟨GA,gn,gc,MA,mn,mc,PA,pn,pc⟩ ci (aQ.1.on ((Fr.aF a3).trans e2)) ep).mono ?_;rintro e cN ⟨ar,rfl,r,a7⟩;refine dz hK (a7) ?_;clear hK K
    iterate 3 refine tf ?_
    have s2:=a3.size;have T:=a7.size;have eD:=aR.lt;have hd:X.drew.heap.size=X.heap.size:=rfl;have F:Ext X cN∧aq cN aT.heap.size 40 #[.slice none 0 0,.slice none 0 0,.slice none 0 0,.int .i64 0]∧X.heap.size≤aT.heap.size∧∃cB:SV,(Value.agg (ar.val m8))=.agg (cB.val m8)∧cB.Is cN (fun b=>X.heap.size≤b∧b<cN.heap.size∧b≠aT.heap.size) m8:=⟨((Fr.aF a3).trans e2).trans a7,aR.ai a7,ad,ar,rfl,r.mono fun b O=>by have:=O.resolve_left fun h=>h;omega⟩
    clear bu e2 aR r a7 L ep a3 s2 T eD hd;revert F;generalize aT.heap.size=az;exact zs
  ·
   refine dP ?_;generalize bu:World.drew (World.alloc _ _)=Z;have e2:=gF bu;have aR:=kp bu;refine ao ?_;refine aC rfl (fun K hK=>?_) rfl;go_simp;refine(Iz qV Z ⟨GA,gn,gc,MA,mn,mc,PA,pn,pc⟩ jf (aQ.1.on e2)).mono ?_;rintro e aT ⟨ci,rfl,l,a3⟩;have L:=l.ok fun b O=>(O.resolve_left fun h=>h).2;refine dz hK (a3) ?_;clear hK K;refine ao ?_;refine aC rfl (fun K hK=>?_) rfl;go_simp;refine(pA aT ⟨GA,gn,gc,MA,mn,mc,PA,pn,pc⟩ ci (aQ.1.on (e2.trans a3)) L).mono ?_;rintro e b6 ⟨ar,rfl,r,a7⟩;refine dz hK (a7) ?_;clear hK K
   iterate 3 refine tf ?_
   have s2:=a3.size;have T:=a7.size;have eD:=aR.lt;have F:Ext X b6∧aq b6 X.heap.size 40 #[.slice none 0 0,.slice none 0 0,.slice none 0 0,.int .i64 0]∧X.heap.size≤X.heap.size∧∃cB:SV,(Value.agg (ar.val m8))=.agg (cB.val m8)∧cB.Is b6 (fun b=>X.heap.size≤b∧b<b6.heap.size∧b≠X.heap.size) m8:=⟨(e2.trans a3).trans a7,(aR.ai a3).ai a7,KG _,ar,rfl,r.mono fun b O=>by have:=O.resolve_left fun h=>h;omega⟩
   clear bu e2 aR r a7 L l a3 s2 T eD;revert F key;generalize (Value.agg (ar.val m8))=Y;generalize (Value.agg (ci.val (dA qV)))=G;intro key F;exact key X.heap.size G Y _ F
 case vY=>
  rintro az G Y bT ⟨cw,dI,gs,⟨an,aE,ax,bf,s,j,bR,al,bc⟩,rfl,I⟩;dsimp only[SV.val];obtain⟨cE,N,aF⟩:=dI.two;clear bs aX a4;exact fj
theorem Ea(A:Ls)(n c:Nat)(l:List Int)(w:World)(h:cq (EF cM) 1 w w.heap.size A n l)(hc:n≤c):Calls prog 31 #[.slice A n c] w (kb w):=
 J9 A n c l w h hc fun K hK=>Jp w (.slice A n c) (fun bJ a=>Jq w (.slice A n c) _ (fun _ _ d _ _ h=>by cases d<;>exact h) (fun bD aY ac av=>Jr w (.slice A n c) bD aY ac av) bJ a) K hK
def H8(w:World)(e:Ending)(ab:World):Prop:=∃(u:ay) (a8 am cF v b4 ao:Ls) (hk da bi cO cV cW d0 d1 d2 d3 d4 d5:Nat) (GA:Ls) (gn gc:Nat) (MA:Ls) (mn mc:Nat) (PA:Ls) (pn pc:Nat),e=.returned (.tuple #[.agg #[.slice a8 hk d0,.slice am da d1,.slice cF bi d2],.agg #[.slice GA gn gc,.slice MA mn mc,.slice PA pn pc,.int .i64 u.main],.agg #[.slice v cO d3,.slice b4 cV d4,.slice ao cW d5]])∧uW u∧gn≤gc∧mn≤mc∧pn≤pc∧(tG u).rep ab (fresh w ab) [.slice GA gn gc,.slice MA mn mc,.slice PA pn pc,.int .i64 u.main]∧Ext w ab
namespace CN
theorem dC(h:p:=by
 go_wp2_with(fail);generalize ab:World.setCell _ _ _=hO;obtain⟨aj,cw,aa⟩:=dU (M:=fun _=>False) (w:=w) [.slice eE n0 c0,.slice bY n1 c1,.slice A2 n2 c2] (by rfl) f ao.1 ad ab;have an:=ao.2.2.1.on aa ad;have bh:=ao.2.2.2.on aa ad;have be:Fr (fun b=>b<w.heap.size+3) Z hO:=ao.2.1.trans (aa.mono fun b O=>ad);have bd:=ag cw be;clear ab cw aa f be ao bl aA aO;obtain⟨bl,aA,aO⟩:=an.two;obtain⟨am,ar,az⟩:=bh.two;obtain⟨t0,aF,aH⟩:=aj.two;refine Ln (v:=.tuple #[.agg #[.slice GA gn gc,.slice MA mn mc,.slice FA fn fc],.agg #[.slice i bB bQ,.slice j dh cj,.slice m o u,.int .i64 (gi p).main],.agg #[.slice eE n0 c0,.slice bY n1 c1,.slice A2 n2 c2]]) (by simp[results,Tryz.results10,go_sem,bl,am,t0]) rfl ?_;refine⟨gi p,?_⟩
 iterate 18 apply Exists.intro
 refine⟨i,bB,bQ,j,dh,cj,m,o,u,rfl,⟨aP.o,xH p⟩,?_,?_,?_,?_,bd.1.drew⟩
 iterate 3
  ·obtain⟨_,_,_,_,_,_,_,_,_,he,ac,av,aV,_⟩:=lT b8.1;injection he with e1 he;injection he with e2 he;injection he with e3 he;injection e1 with _ ea eb;injection e2 with _ ec ed;injection e3 with _ ee s;omega
 have bW:=bd.2.size;have bt:(tG (gi p)).rep hO.drew (fresh X aT) [.slice i bB bQ,.slice j dh cj,.slice m o u,.int .i64 (gi p).main]:=D.aS (fun b O=>bd.2.drew.block b (aD O.2) (aD O.1)) _ _ b8.1;exact D.aL (fun b O=>⟨by have:=O.1;omega,by have:=O.2;show b<hO.heap.size;omega⟩) _ _ bt
 ):p:=h
end CN
open CN in
theorem uO(A:Ls)(n c:Nat)(l:List Int)(w:World)(h:cq (EF cM) 1 w w.heap.size A n l)(hc:n≤c):Calls prog 10 #[.slice A n c] w (H8 w):=by
 have H:=ae h;clear h;go_enter func10,ntmps10;go_upto_region 1 with(fail);generalize ba:World.alloc _ _=W;have aw:=kq ba;have bs:=jo ba;have bF:=g5 ba;have b7:=GZ ba;have cY:W.heap.size=w.heap.size+3:=by rw[←ba];simp
 have y:=H.c4 (Fr.ext aw) aw.size;have ah:=bH aw bs bF b7;have ca:=ae y;clear ba aw bs bF b7 y H;go_wp2_with(fail);refine(Ea A n c l W ca.o hc).mono ?_;rintro e aS ⟨p,GA,gn,gc,MA,mn,mc,FA,fn,fc,rfl,bn,ay,co,aC,a2,hm,J,aN⟩;have H1:=cI bn a2 hm J aN;have cn:=aN.size;clear bn a2 hm J aN ca;go_upto_region 2 with(fail);generalize hX:World.alloc _ _=X;have ce:=aG hX;have bX:=aU hX;have e4:=bX.size;have al:=ce.lt;obtain⟨d0,aL,aM⟩:=ce.two;have I:hk X (au X) p GA gn MA mn FA fn:=⟨(Sl.ak H1.2.1 fun b O=>bX.block b O.2 (fun h=>h)).mono fun b O=>KH O.2 e4,(Sl.ak H1.2.2.1 fun b O=>bX.block b O.2 (fun h=>h)).mono fun b O=>KH O.2 e4,(Sl.ak H1.2.2.2.1 fun b O=>bX.block b O.2 (fun h=>h)).mono fun b O=>KH O.2 e4⟩
 have z:=aB I ce (H1.2.2.2.2.trans bX);clear hX ce bX I;go_wp2_with(fail);refine(DV p H1.1 GA gn gc MA mn mc FA fn fc X z.1).mono ?_;rintro e aT ⟨i,bB,bQ,j,dh,cj,m,o,u,rfl,bU,a3⟩;have bO:=a3.size;have N:=z.2.1.ai a3;have bG:=aB bU N (z.2.2.trans a3);clear bU a3 N d0 aL aM;go_upto_region 3 with(fail);generalize cr:World.alloc _ _=Y;have cD:=aG cr;have g:=aU cr;have bE:=g.size;have ap:=cD.lt;obtain⟨d0,aL,aM⟩:=cD.two;have bU:(tG (gi p)).rep Y (fresh X aT) [.slice i bB bQ,.slice j dh cj,.slice m o u,.int .i64 (gi p).main]:=D.aS (fun b O=>g.block b O.2 (fun h=>h)) _ _ bG.1;have ai:hq Y (au Y) (gi p) i bB j dh m o:=by
  obtain⟨_,_,_,_,_,_,_,_,_,he,_,_,_,hu⟩:=lT (D.aL (c5:=au Y) (fun b O=>KH O.2 bE) _ _ bU);injection he with ac he;injection he with av he;injection he with aV he;injection ac with bx O hc;injection av with G bg b9;injection aV with R ct U;subst bx O G bg R ct;exact hu
 have af:=cI bU ai cD (bG.2.1.ai g) (bG.2.2.trans g);have aP:=ae (xG H1.1);clear cr cD g bU ai bG;go_wp2_with(fail);refine(yd (gi p) aP.o i bB bQ j dh cj m o u Y af.2.1).mono ?_;rintro e b6 ⟨eE,n0,c0,bY,n1,c1,A2,n2,c2,k,rfl,a7⟩;have cP:=a7.size;have bT:=bH (D.aS (fun b O=>a7.block b (KH O.2 bE) (fun h=>h)) _ _ af.1) (af.2.2.1.ai a7) (af.2.2.2.1.ai a7) (af.2.2.2.2.trans a7);clear a7 d0 aL aM af;go_upto_region 4 with(fail);generalize bu:World.alloc _ _=Z;have bf:=aG bu;have L:=aU bu;have gM:=L.size;have gM:=L.size;have bU:=D.aS (fun b O=>L.block b (KH O.2 (KX bE cP)) (fun h=>h)) _ _ bT.1;have cD:=bT.2.1.ai L;have ce:=bT.2.2.1.ai L;have F:Ext W Z:=bT.2.2.2.trans L;have Q:=ah.2.1.ai F;have cF:=ah.2.2.1.ai F;have f:=ah.2.2.2.ai F;have b8:=ag bU (ah.1.trans F);have b2:=aB ce cD bf;have aW:=ag cF f;obtain⟨bl,aA,aO⟩:=Q.two;have ak:=bf.lt;clear bu L bU bT F cF f ce cD bf;refine eK (fun b=>b<w.heap.size+3) [(0,0),(1,0),(2,0),(3,1),(4,1),(5,2)] ?_;refine bP (v:=?_) rfl (by rfl) (fun V hV=>?_) ?_;rotate_left
 ·obtain⟨d0,aL,aM⟩:=(b2.1.on (Fr.aF hV) ad).two
  (go_simp<;>with_reducible rfl)
 try simp only[PU]
 refine bP (v:=?_) rfl (by rfl) (fun V hV=>?_) ?_;rotate_left
 ·obtain⟨d0,aL,aM⟩:=(b2.2.1.on (Fr.aF hV) ad).two
  (go_simp<;>with_reducible rfl)
 try simp only[PU]
 refine bP (v:=?_) rfl (by rfl) (fun V hV=>?_) ?_;rotate_left
 ·obtain⟨d0,aL,aM⟩:=(b2.2.2.on (Fr.aF hV) ad).two
  (go_simp<;>with_reducible rfl)
 try simp only[PU]
 refine aJ rfl (fun K hK=>?_);go_simp;refine dz hK (((Lo.setCell (.inl (by show w.heap.size<w.heap.size+3;omega)) _).setCell (.inl (by show w.heap.size<w.heap.size+3;omega)) _).setCell (.inl (by show w.heap.size<w.heap.size+3;omega)) _) ?_;clear hK K;generalize S:World.setCell _ _ _=c9;obtain⟨an,a3,P⟩:=dU (M:=fun _=>False) (w:=w) [.slice GA gn gc,.slice MA mn mc,.slice FA fn fc] (by rfl) Q b8.2 (KG _) S;have cF:=aW.1.on P ad;have f:=aW.2.on P ad;have r:=bH a3 (Fr.mono (M':=fun b=>b<w.heap.size+3) P fun b O=>ad) an f;clear S a3 P an f Q bl aA aO;obtain⟨bl,aA,aO⟩:=cF.two;refine aJ rfl (fun K hK=>?_);go_simp;refine dz hK (((Lo.setCell (.inl (by show w.heap.size+1<w.heap.size+3;omega)) _).setCell (.inl (by show w.heap.size+1<w.heap.size+3;omega)) _).setCell (.inl (by show w.heap.size+1<w.heap.size+3;omega)) _ |>.setCell (.inl (by show w.heap.size+1<w.heap.size+3;omega)) _) ?_;clear hK K;generalize T:World.setCell _ _ _=hl;obtain⟨bh,a7,aY⟩:=dU (M:=fun _=>False) (w:=w) [.slice i bB bQ,.slice j dh cj,.slice m o u,.int .i64 (gi p).main] (by rfl) cF r.1 ad T;have f:=r.2.2.2.on aY ad;have ao:=bH a7 (r.2.1.trans (aY.mono fun b O=>ad)) (r.2.2.1.on aY ad) bh;clear T a7 aY bh cF r bl aA aO;obtain⟨bl,aA,aO⟩:=f.two;exact eP
end Go.Proofs.YtnhhdaggkiomoaaGreat

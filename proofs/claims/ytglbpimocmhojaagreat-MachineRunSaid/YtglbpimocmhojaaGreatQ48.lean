/- Part 48 of the proof. No condition of its own. -/
import Derived.Test.YtglbpimocmhojaaGreatQ30
import Derived.Test.YtglbpimocmhojaaGreatQ46
import Derived.Test.YtglbpimocmhojaaGreatQ47
namespace Go.Proofs.YtglbpimocmhojaaGreat
open Go.RowKit Go.Proofs.Tryz
set_option maxRecDepth 1000000
set_option maxHeartbeats 25600000
set_option linter.unusedVariables false
variable{p:Prop}
def aw:ByteArray:=⟨#[109,117,116,101,120,32,97,59,32,102,117,110,99,32,109,97,105,110,40,41,32,123,32,108,111,99,107,32,97,59,32,108,111,99,107,32,97,59,32,125]⟩
def Hc:ByteArray:=strOf [97]
def Ez:bK:=⟨[],[⟨Hc,false,0⟩],[⟨strOf [109,97,105,110],[],.lock false ⟨Hc,none⟩ (.lock false ⟨Hc,none⟩ .nil)⟩]⟩
theorem vy:(dt aw.data.toList).1.length<=4001/\0<(dt aw.data.toList).1.length/\(dt aw.data.toList).2.2=0:=by decide +kernel
theorem EN:kh (dt aw.data.toList).1 10 0=some (Ez.af,Ez.funcs):=by rfl
theorem Gw:ot Ez:=by
 refine⟨?_,?_,by decide,by decide,by decide,?_,?_,?_,⟨0,_,rfl,rfl,rfl⟩,by decide⟩
 .decide
 .decide
 .decide
 .decide
 .intro f J;simp only[Ez,Lf] at J;subst J;refine⟨by decide,by decide,by decide,?_⟩;have a5:rT (hR Ez ⟨strOf [109,97,105,110],[],.lock false ⟨Hc,none⟩ (.lock false ⟨Hc,none⟩ .nil)⟩) (fo Ez++cr []) ⟨Hc,none⟩:=.inl ⟨⟨Hc,false,0⟩,by simp[hR,Ez],rfl,λh=>absurd h (by decide),λ_=>rfl⟩;exact⟨a5,a5,trivial⟩
def qQ:ay:=gj Ez
theorem jf:tq qQ:=⟨xz Gw,xA Ez⟩
def m7:aj:=(b9 qQ (dJ qQ) 0).1
theorem Hd:(b9 qQ (dJ qQ) 0).2=true:=by decide +kernel
theorem C7:(b9 qQ m7 0).2=false:=by decide +kernel
theorem C6:m7.table=[⟨1,1⟩]:=by rfl
theorem vx:aV qQ 1 m7:=uD jf.ok (oI jf.ok)
theorem Jz{w:World}{P:Nat->Prop}{u:ay}{GA MA PA:Lp}{gn gc mn mc pn pc:Nat}{m:Int}(h:(tC u).rep w P [.slice GA gn gc,.slice MA mn mc,.slice PA pn pc,.int .i64 m])(aZ:∀b,P b->b<w.heap.size):(⟨GA,gn,gc,MA,mn,mc,PA,pn,pc⟩:UV).Ok w u:=by
 obtain⟨_,_,_,_,_,_,_,_,_,he,ac,au,aU,hu⟩:=lT (D.aL (c6:=av w) aZ _ _ h);injection he with e1 he;injection he with e2 he;injection he with e3 he;injection e1 with q y a3;injection e2 with am di i;injection e3 with c1 c2 c3;subst q y a3 am di i c1 c2 c3;exact⟨hu,ac,au,aU⟩
theorem IK(s:ByteArray)(p:bK)(w:World)(aG:Nat)(hs:s.size<=4000)(hn:(dt s.data.toList).1.length<=4001)(aM:0<(dt s.data.toList).1.length)(he:(dt s.data.toList).2.2=0)(hp:kh (dt s.data.toList).1 aG 0=some (p.af,p.funcs))(a2:p.globals=[])(hw:ot p) :
  Calls prog 50 #[.string s] w λe ab=>∃q:UV,e=.returned (.agg (q.val (gj p)))/\q.Ok ab (gj p)/\Ext w ab:=by
 have H:=cS hn aM he hp a2 hw;clear hn aM he hp a2 hw;go_enter func50,ntmps50;go_upto_region 1 with(fail);generalize ba:World.alloc _ _=W;have aw:=aX ba;have cA:=aK ba;have ag:=ah aw cA;have cZ:=cA.lt;clear ba aw cA;have kc:=run_bytes_of_string (P:=prog) W 9 127 5 s Tryz.underlying9 Tryz.underlying127 Tryz.underlying5;have a1:=grownCap_ge W s.size 0 5;generalize M:grownCap W s.size 0 5=cap at *;clear M;go_wp2_with(fail);generalize hV:World.alloc _ _=V;have hT:ft V W.heap.size 0 cap s:=by
  rw[<-hV];exact xS W s cap a1 ad _ _
 have L:=aX hV;have cc:=ah hT L;clear hV L kc hT;refine(yv s W.heap.size 0 cap V.drew p.af p.funcs aG (cc.1.on Ll.drew) hs H.1 H.2.1 H.2.2.1 H.2.2.2.1 H.2.2.2.2.2.v8 (aC H.2.2.2.2.2.DS)).mono ?_;rintro e aS ⟨MA,mn,mc,FA,fn,fc,z,rfl,u,cj,aB,aN⟩;have k:Ext W aS:=cc.2.drew.trans aN;have H1:=ah u k;have cp:=k.size;clear u aN k cj aB;go_upto_region 2 with(fail);generalize hX:World.alloc _ _=X;have bp:=aX hX;have bz:=aK hX;have u:hk X (av X) p none 0 MA mn FA fn:=by
  have ap:∀b,fresh V.drew aS b->X.heap[b]?=aS.heap[b]?:=λb O=>bp.block b O.2 λh=>h;have hm:∀b,fresh V.drew aS b->av X b:=λb O=>KE O.2 bp.size;refine⟨?_,(H1.1.m.ak ap).mono hm,(H1.1.f.ak ap).mono hm⟩;rw[H.2.2.2.2.1];exact Sl.bN _
 have aQ:=ah u (H1.2.trans bp);obtain⟨bs,aV,bu⟩:=bz.two;clear hX bp bz u;go_wp2_with(fail);refine(DM p H.2.2.2.2.2 none 0 0 MA mn mc FA fn fc X aQ.1).mono ?_;rintro e aT ⟨g,bn,bP,j,dg,cw,i,m,o,rfl,b5,a3⟩;have bJ:=ah b5 (aQ.2.trans a3);have bN:=a3.size;clear b5 a3 bs aV bu;go_upto_region 3 with(fail);generalize ct:World.alloc _ _=Y;have bG:=aX ct;have bE:=aK ct;have ds:=bJ.2.trans bG;have bB:=aD bG (ag.2.ai ds) (ag.1.trans ds);obtain⟨cr,N,aF⟩:=bE.two;obtain⟨bl,aA,aO⟩:=bB.2.1.two;clear ct bG bE ds;go_wp2_with(fail);generalize hX:World.setCell _ _ _=Z;obtain⟨bh,a9,bd⟩:=bA (w:=w) [.slice g bn bP,.slice j dg cw,.slice i m o,.int .i64 (gj p).main] (by rfl) bB.2.1 bB.2.2 (KD _) hX;have bv:(⟨g,bn,bP,j,dg,cw,i,m,o⟩:UV).Ok Z (gj p):=by
  refine Jz (P:=fresh X aT) (D.aS (λb O=>(bd.block b (lK bB.1.size O.2) (lK aQ.2.size O.1)).trans (bB.1.block b O.2 λh=>h)) _ _ bJ.1) λb O=>by have:=bd.size;have:=bB.1.size;have:=O.2;omega
 have bf:=ah bv a9;clear hX a9 bd bl aA aO cr N aF bv;obtain⟨bl,aA,aO⟩:=bh.two;refine Lk (v:=.agg #[.slice g bn bP,.slice j dg cw,.slice i m o,.int .i64 (gj p).main]) (by simp[results,Tryz.results50,go_sem,bl]) rfl ?_;exact⟨⟨g,bn,bP,j,dg,cw,i,m,o⟩,rfl,bf.1,bf.2⟩
theorem pw(w:World)(p:UV)(q:SV)(hu:p.Ok w qQ)(hs:q.Ok w (dJ qQ)):Calls prog 9 #[.agg (p.val qQ),.agg (q.val (dJ qQ)),.int .i64 0] w (cR mG w m7 true):=by
 have:=GH qQ (dJ qQ) 0 0 w p q jf (oI jf.ok) ad hu hs;rw[Hd] at this;exact this
theorem C5(w:World)(p:UV)(q:SV)(hu:p.Ok w qQ)(hs:q.Ok w m7):Calls prog 9 #[.agg (p.val qQ),.agg (q.val m7),.int .i64 0] w (cR mG w m7 false):=by
 have:=GH qQ m7 0 1 w p q jf vx ad hu hs;rw[j4 C7,C7] at this;exact this
namespace Cx
theorem eQ(h:p:=by
 refine tf ?_;refine b3 ?_;generalize bI:World.setCell _ _ _=Z;obtain⟨bh,a9,bd⟩:=bA (w:=X) [.slice an av aj,.slice be s j,.slice bQ al bc,.int .i64 m7.fault] (by rfl) bF cB gr bI;have M:(⟨an,av,aj,be,s,j,bQ,al,bc⟩:SV).Ok Z m7:=(L.ak λb O=>bd.block b O.2.1 O.2.2).ok λb O=>by have:=bd.size;have:=O.2.1;omega
 have bf:=aD M a9 bh;obtain⟨bs,aV,bu⟩:=(aQ.2.2.ai a9).two;obtain⟨ax,o,G⟩:=bh.two;clear bI bh a9 bd M bF cB gr L cr N aF;go_wp2_with(fail);refine(C5 Z ⟨GA,gn,gc,MA,mn,mc,PA,pn,pc⟩ ⟨an,av,aj,be,s,j,bQ,al,bc⟩ (aQ.1.on bf.2.1) bf.1).mono ?_;rintro e c7 ⟨⟨V,ai,ag,af,y,x,cw,hS,v⟩,rfl,ac,b0⟩;have z:=ah (ac.ok λb O=>(O.resolve_left λh=>h).2) b0;clear ac b0 bs aV bu ax o G;dsimp only[SV.val];go_upto_region 4 with(fail);generalize ct:World.alloc _ _=Y;have bG:=aX ct;have bE:=aK ct;have l:=z.2.trans bG;have cu:s=1:=by have:=bf.1.at_.t.1;simp only[KH,C6] at this;exact this.symm
 have bB:=cK (bf.1.on l) (z.1.on bG) l (aQ.2.1.trans (bf.2.1.trans l)) (aQ.1.on (bf.2.1.trans l));obtain⟨ax,o,G⟩:=(bf.2.2.ai l).two;obtain⟨cr,N,aF⟩:=bE.two;have a1:=vx.small jf.ok ad;subst cu;have a4:=ae a1;clear ct bG bE l a1;go_wp2_with(fail);refine(Iu m7 m7 ⟨an,av,aj,be,1,j,bQ,al,bc⟩ ⟨V,ai,ag,af,y,x,cw,hS,v⟩ Y bB.1 bB.2.1 a4.o).mono ?_;rintro e cU ⟨bb,rfl,U,f⟩;obtain rfl:bb=true:=U.2 rfl;have S:=ae f;clear U cr N aF ax o G;obtain⟨bs,aV,bu⟩:=(aQ.2.2.ai (bf.2.1.trans (bB.2.2.1.trans f))).two;obtain⟨ax,o,G⟩:=(bf.2.2.ai (bB.2.2.1.trans f)).two;clear f;go_wp2_with(fail);refine(DQ qQ m7 ⟨GA,gn,gc,MA,mn,mc,PA,pn,pc⟩ ⟨an,av,aj,be,1,j,bQ,al,bc⟩ cU jf.ok.yp (bB.2.2.2.2.on S.o) (bB.1.on S.o) (by decide) (by decide) (by have:=bB.1.at_.h.1;simp only[KH] at this;have au:m7.threads.length=1:=rfl;show al<=140737488355328;omega) (by decide)).mono ?_;rintro e gS ⟨bb,rfl,U,bJ⟩;obtain rfl:bb=true:=U.2 (rS jf.ok vx);have q:=ae (S.trans bJ);have m:=S.trans bJ;obtain⟨ak,to,ay,u,cD,n,t0,t1⟩:=((bB.1.on m).at_.t.holds).hold (k:=0) (by show 0<1;omega);rw[C6] at n;injection n with n;subst n;simp only at u;subst u;simp only[Nat.zero_mul,KN] at t0 t1;have heq:=E4 1 1 1 1;clear U bs aV bu ax o G;obtain⟨ax,o,G⟩:=(bf.2.2.ai (bB.2.2.1.trans m)).two;clear bJ m;go_wp2_with(fail);go_ret;exact⟨rfl,bB.2.2.2.1.trans q.o⟩
 ):p:=h
theorem AP(h:p:=by
 have hd:X.drew.heap.size=X.heap.size:=rfl;have F:Ext X Z/\aq Z bX.heap.size 40 #[.slice none 0 0,.slice none 0 0,.slice none 0 0,.int .i64 0]/\X.heap.size<=bX.heap.size/\∃cI:SV,(Value.agg (ar.val m7))=.agg (cI.val m7)/\cI.Is Z (λb=>X.heap.size<=b/\b<Z.heap.size/\b≠bX.heap.size) m7:=⟨((Fr.aF a3).trans a7).trans e2,aR,ad,ar,rfl,(r.ak λb O=>e2.block b (O.resolve_left λh=>h).2 λh=>h).mono λb O=>by have:=O.resolve_left λh=>h;omega⟩
 clear bI e2 aR r a7 I a3 s2 T eD hd;revert F;generalize bX.heap.size=az;exact zk
 ):p:=h
end Cx
open Cx in
theorem IY(w:World):Calls prog 13 #[] w λe ab=>e=.returned (.bool true)/\Ext w ab:=by
 go_enter func13,ntmps13;go_wp2_with(fail);refine(show Calls prog 50 #[.string aw] w _ from IK aw Ez w 10 (by decide) vy.1 vy.2.1 vy.2.2 EN rfl Gw).mono ?_;rintro e aS ⟨⟨GA,gn,gc,MA,mn,mc,PA,pn,pc⟩,rfl,hu,aN⟩;have H1:=ah hu aN;clear hu aN;dsimp only[UV.val];go_upto_region 2 with(fail);generalize hX:World.alloc _ _=X;have bp:=aX hX;have bz:=aK hX;have H:=bz.lt;have aQ:=aD (H1.1.on bp) (H1.2.trans bp) bz;obtain⟨bs,aV,bu⟩:=bz.two;clear hX bp bz;refine qY (λ_=>False) [8] (.held 0 (.held 1 (.pick [2,7] (λi=>bif i == 2 then .pick [3,7] (λi=>bif i == 3 then .free 4 (.free 5 (.free 6 (.pick [7] (λ_=>.pick [8] (λ_=>.free 9 (.stop)))))) else .pick [3] (λ_=>.free 4 (.free 5 (.free 6 (.pick [8] (λ_=>.free 9 (.stop))))))) else .pick [2] (λ_=>.pick [3] (λ_=>.free 4 (.free 5 (.free 6 (.pick [8] (λ_=>.free 9 (.stop))))))))))) ?_
 iterate 2 refine th ?_
 refine gV (P:=?ow) (ops:=?Hq) (Q:=?Hs) (R:=?Hu) (tails:=?HE) (rest:=.pick [8] (λ_=>.free 9 (.stop))) (aa:=?G3)
  (C:=λ(az:Nat) (J:Value) (Y:Value) eN=>Ext X eN/\aq eN az 40 #[.slice none 0 0,.slice none 0 0,.slice none 0 0,.int .i64 0]/\X.heap.size<=az/\∃ar:SV,Y=.agg (ar.val m7)/\ar.Is eN (λb=>X.heap.size<=b/\b<eN.heap.size/\b≠az) m7) (λkey=>?vY) ?vR
 case vY=>
  refine aY ?_ ?_
  ·
   refine aB rfl (λK hK=>?_) rfl;go_simp;refine(Ir qQ X.drew ⟨GA,gn,gc,MA,mn,mc,PA,pn,pc⟩ jf (aQ.1.on (Fr.refl _ X).drew)).mono ?_;rintro e aT ⟨b7,rfl,g,a3⟩;have I:=g.ok λb O=>(O.resolve_left λh=>h).2;clear g;refine dz hK (a3) ?_;clear hK K;refine aY ?_ ?_
   ·
    refine aB rfl (λK hK=>?_) rfl;go_simp;refine(pw aT ⟨GA,gn,gc,MA,mn,mc,PA,pn,pc⟩ b7 (aQ.1.on (Fr.aF a3)) I).mono ?_;exact AO
   ·
    refine dP ?_;generalize bI:World.alloc _ _=Z;have e2:=aX bI;have aR:=aK bI;have ep:=I.on e2;refine ao ?_;refine aB rfl (λK hK=>?_) rfl;go_simp;refine(pw Z ⟨GA,gn,gc,MA,mn,mc,PA,pn,pc⟩ b7 (aQ.1.on ((Fr.aF a3).trans e2)) ep).mono ?_;rintro e cL ⟨ar,rfl,r,a7⟩;refine dz hK (a7) ?_;clear hK K
    iterate 3 refine tf ?_
    have s2:=a3.size;have T:=a7.size;have eD:=aR.lt;have hd:X.drew.heap.size=X.heap.size:=rfl;have F:Ext X cL/\aq cL aT.heap.size 40 #[.slice none 0 0,.slice none 0 0,.slice none 0 0,.int .i64 0]/\X.heap.size<=aT.heap.size/\∃cI:SV,(Value.agg (ar.val m7))=.agg (cI.val m7)/\cI.Is cL (λb=>X.heap.size<=b/\b<cL.heap.size/\b≠aT.heap.size) m7:=⟨((Fr.aF a3).trans e2).trans a7,aR.ai a7,ad,ar,rfl,r.mono λb O=>by have:=O.resolve_left λh=>h;omega⟩
    clear bI e2 aR r a7 I ep a3 s2 T eD hd;revert F;generalize aT.heap.size=az;exact zk
  ·
   refine dP ?_;generalize bI:World.drew (World.alloc _ _)=Z;have e2:=gG bI;have aR:=kp bI;refine ao ?_;refine aB rfl (λK hK=>?_) rfl;go_simp;refine(Ir qQ Z ⟨GA,gn,gc,MA,mn,mc,PA,pn,pc⟩ jf (aQ.1.on e2)).mono ?_;rintro e aT ⟨b7,rfl,g,a3⟩;have I:=g.ok λb O=>(O.resolve_left λh=>h).2;refine dz hK (a3) ?_;clear hK K;refine ao ?_;refine aB rfl (λK hK=>?_) rfl;go_simp;refine(pw aT ⟨GA,gn,gc,MA,mn,mc,PA,pn,pc⟩ b7 (aQ.1.on (e2.trans a3)) I).mono ?_;rintro e bX ⟨ar,rfl,r,a7⟩;refine dz hK (a7) ?_;clear hK K
   iterate 3 refine tf ?_
   have s2:=a3.size;have T:=a7.size;have eD:=aR.lt;have F:Ext X bX/\aq bX X.heap.size 40 #[.slice none 0 0,.slice none 0 0,.slice none 0 0,.int .i64 0]/\X.heap.size<=X.heap.size/\∃cI:SV,(Value.agg (ar.val m7))=.agg (cI.val m7)/\cI.Is bX (λb=>X.heap.size<=b/\b<bX.heap.size/\b≠X.heap.size) m7:=⟨(e2.trans a3).trans a7,(aR.ai a3).ai a7,KD _,ar,rfl,r.mono λb O=>by have:=O.resolve_left λh=>h;omega⟩
   clear bI e2 aR r a7 I g a3 s2 T eD;revert F key;generalize (Value.agg (ar.val m7))=Y;generalize (Value.agg (b7.val (dJ qQ)))=J;intro key F;exact key X.heap.size J Y _ F
 case vR=>
  rintro az J Y eN ⟨cB,bF,gr,⟨an,av,aj,be,s,j,bQ,al,bc⟩,rfl,L⟩;dsimp only[SV.val];obtain⟨cr,N,aF⟩:=bF.two;clear bs aV bu;exact fj
theorem D2(A:Lp)(n c:Nat)(l:List Int)(w:World)(h:cx (EF cT) 1 w w.heap.size A n l)(hc:n<=c):Calls prog 21 #[.slice A n c] w (kb w):=
 J6 A n c l w h hc λK hK=>Jl w (.slice A n c) (λe4 a=>Jm w (.slice A n c) _ (λ_ _ d _ _ h=>by cases d<;>exact h) (λbC aP ac au=>Jn w (.slice A n c) bC aP ac au) e4 a) K hK
def H4(w:World)(e:Ending)(ab:World):Prop:=∃(u:ay) (a8 am di i b4 a:Lp) (hQ da bi cM bo cb d0 d1 d2 d3 d4 d5:Nat) (GA:Lp) (gn gc:Nat) (MA:Lp) (mn mc:Nat) (PA:Lp) (pn pc:Nat),e=.returned (.tuple #[.agg #[.slice a8 hQ d0,.slice am da d1,.slice di bi d2],.agg #[.slice GA gn gc,.slice MA mn mc,.slice PA pn pc,.int .i64 u.main],.agg #[.slice i cM d3,.slice b4 bo d4,.slice a cb d5]])/\tq u/\gn<=gc/\mn<=mc/\pn<=pc/\(tC u).rep ab (fresh w ab) [.slice GA gn gc,.slice MA mn mc,.slice PA pn pc,.int .i64 u.main]/\Ext w ab
namespace CE
theorem dB(h:p:=by
 go_wp2_with(fail);generalize af:World.setCell _ _ _=hM;obtain⟨aj,cB,aa⟩:=dU (M:=λ_=>False) (w:=w) [.slice eF n0 c0,.slice bU n1 c1,.slice A2 n2 c2] (by rfl) s ao.1 ad af;have an:=ao.2.2.1.on aa ad;have bh:=ao.2.2.2.on aa ad;have bd:Fr (λb=>b<w.heap.size+3) Z hM:=ao.2.1.trans (aa.mono λb O=>ad);have bf:=ah cB bd;clear af cB aa s bd ao bl aA aO;obtain⟨bl,aA,aO⟩:=an.two;obtain⟨am,ar,az⟩:=bh.two;obtain⟨t0,aF,aG⟩:=aj.two;refine Lk (v:=.tuple #[.agg #[.slice GA gn gc,.slice MA mn mc,.slice FA fn fc],.agg #[.slice g bn bP,.slice j dg cw,.slice i m o,.int .i64 (gj p).main],.agg #[.slice eF n0 c0,.slice bU n1 c1,.slice A2 n2 c2]]) (by simp[results,Tryz.results5,go_sem,bl,am,t0]) rfl ?_;refine⟨gj p,?_⟩
 iterate 18 apply Exists.intro
 refine⟨g,bn,bP,j,dg,cw,i,m,o,rfl,⟨aP.o,xA p⟩,?_,?_,?_,?_,bf.1.drew⟩
 iterate 3
  .obtain⟨_,_,_,_,_,_,_,_,_,he,ac,au,aU,_⟩:=lT bY.1;injection he with e1 he;injection he with e2 he;injection he with e3 he;injection e1 with _ ea eb;injection e2 with _ ec ed;injection e3 with _ ee N;omega
 have bZ:=bf.2.size;have bt:(tC (gj p)).rep hM.drew (fresh X aT) [.slice g bn bP,.slice j dg cw,.slice i m o,.int .i64 (gj p).main]:=D.aS (λb O=>bf.2.drew.block b (aC O.2) (aC O.1)) _ _ bY.1;exact D.aL (λb O=>⟨by have:=O.1;omega,by have:=O.2;show b<hM.heap.size;omega⟩) _ _ bt
 ):p:=h
end CE
open CE in
theorem IL(A:Lp)(n c:Nat)(l:List Int)(w:World)(h:cx (EF cT) 1 w w.heap.size A n l)(hc:n<=c):Calls prog 5 #[.slice A n c] w (H4 w):=by
 have H:=ae h;clear h;go_enter func5,ntmps5;go_upto_region 1 with(fail);generalize ba:World.alloc _ _=W;have aw:=lF ba;have bs:=jo ba;have bD:=ir ba;have b6:=GW ba;have cZ:W.heap.size=w.heap.size+3:=by rw[<-ba];simp
 have y:=H.c8 (Fr.ext aw) aw.size;have ag:=bL aw bs bD b6;have b9:=ae y;clear ba aw bs bD b6 y H;go_wp2_with(fail);refine(D2 A n c l W b9.o hc).mono ?_;rintro e aS ⟨p,GA,gn,gc,MA,mn,mc,FA,fn,fc,rfl,a4,ay,cj,aB,a2,hm,J,aN⟩;have H1:=cK a4 a2 hm J aN;have cp:=aN.size;clear a4 a2 hm J aN b9;go_upto_region 2 with(fail);generalize hX:World.alloc _ _=X;have ce:=aK hX;have b0:=aX hX;have f2:=b0.size;have al:=ce.lt;obtain⟨d0,aL,aM⟩:=ce.two;have u:hk X (av X) p GA gn MA mn FA fn:=⟨(Sl.ak H1.2.1 λb O=>b0.block b O.2 (λh=>h)).mono λb O=>KE O.2 f2,(Sl.ak H1.2.2.1 λb O=>b0.block b O.2 (λh=>h)).mono λb O=>KE O.2 f2,(Sl.ak H1.2.2.2.1 λb O=>b0.block b O.2 (λh=>h)).mono λb O=>KE O.2 f2⟩
 have z:=aD u ce (H1.2.2.2.2.trans b0);clear hX ce b0 u;go_wp2_with(fail);refine(DM p H1.1 GA gn gc MA mn mc FA fn fc X z.1).mono ?_;rintro e aT ⟨g,bn,bP,j,dg,cw,i,m,o,rfl,b5,a3⟩;have bN:=a3.size;have I:=z.2.1.ai a3;have bJ:=aD b5 I (z.2.2.trans a3);clear b5 a3 I d0 aL aM;go_upto_region 3 with(fail);generalize ct:World.alloc _ _=Y;have cD:=aK ct;have f:=aX ct;have bE:=f.size;have ap:=cD.lt;obtain⟨d0,aL,aM⟩:=cD.two;have b5:(tC (gj p)).rep Y (fresh X aT) [.slice g bn bP,.slice j dg cw,.slice i m o,.int .i64 (gj p).main]:=D.aS (λb O=>f.block b O.2 (λh=>h)) _ _ bJ.1;have ai:hq Y (av Y) (gj p) g bn j dg i m:=by
  obtain⟨_,_,_,_,_,_,_,_,_,he,_,_,_,hu⟩:=lT (D.aL (c6:=av Y) (λb O=>KE O.2 bE) _ _ b5);injection he with ac he;injection he with au he;injection he with aU he;injection ac with bx O hc;injection au with G bg ci;injection aU with R co U;subst bx O G bg R co;exact hu
 have S:=cK b5 ai cD (bJ.2.1.ai f) (bJ.2.2.trans f);have aP:=ae (xz H1.1);clear ct cD f b5 ai bJ;go_wp2_with(fail);refine(x4 (gj p) aP.o g bn bP j dg cw i m o Y S.2.1).mono ?_;rintro e bX ⟨eF,n0,c0,bU,n1,c1,A2,n2,c2,k,rfl,a7⟩;have cO:=a7.size;have bW:=bL (D.aS (λb O=>a7.block b (KE O.2 bE) (λh=>h)) _ _ S.1) (S.2.2.1.ai a7) (S.2.2.2.1.ai a7) (S.2.2.2.2.trans a7);clear a7 d0 aL aM S;go_upto_region 4 with(fail);generalize bI:World.alloc _ _=Z;have be:=aK bI;have L:=aX bI;have gP:=L.size;have gP:=L.size;have b5:=D.aS (λb O=>L.block b (KE O.2 (KU bE cO)) (λh=>h)) _ _ bW.1;have cD:=bW.2.1.ai L;have ce:=bW.2.2.1.ai L;have F:Ext W Z:=bW.2.2.2.trans L;have Q:=ag.2.1.ai F;have cG:=ag.2.2.1.ai F;have s:=ag.2.2.2.ai F;have bY:=ah b5 (ag.1.trans F);have b1:=aD ce cD be;have aW:=ah cG s;obtain⟨bl,aA,aO⟩:=Q.two;have ak:=be.lt;clear bI L b5 bW F cG s ce cD be;refine eK (λb=>b<w.heap.size+3) [(0,0),(1,0),(2,0),(3,1),(4,1),(5,2)] ?_;refine bO (v:=?_) rfl (by rfl) (λV hV=>?_) ?_;rotate_left
 .obtain⟨d0,aL,aM⟩:=(b1.1.on (Fr.aF hV) ad).two
  (go_simp<;>with_reducible rfl)
 try simp only[PU]
 refine bO (v:=?_) rfl (by rfl) (λV hV=>?_) ?_;rotate_left
 .obtain⟨d0,aL,aM⟩:=(b1.2.1.on (Fr.aF hV) ad).two
  (go_simp<;>with_reducible rfl)
 try simp only[PU]
 refine bO (v:=?_) rfl (by rfl) (λV hV=>?_) ?_;rotate_left
 .obtain⟨d0,aL,aM⟩:=(b1.2.2.on (Fr.aF hV) ad).two
  (go_simp<;>with_reducible rfl)
 try simp only[PU]
 refine aI rfl (λK hK=>?_);go_simp;refine dz hK (((Ll.setCell (.inl (by show w.heap.size<w.heap.size+3;omega)) _).setCell (.inl (by show w.heap.size<w.heap.size+3;omega)) _).setCell (.inl (by show w.heap.size<w.heap.size+3;omega)) _) ?_;clear hK K;generalize T:World.setCell _ _ _=dm;obtain⟨an,a3,P⟩:=dU (M:=λ_=>False) (w:=w) [.slice GA gn gc,.slice MA mn mc,.slice FA fn fc] (by rfl) Q bY.2 (KD _) T;have cG:=aW.1.on P ad;have s:=aW.2.on P ad;have r:=bL a3 (Fr.mono (M':=λb=>b<w.heap.size+3) P λb O=>ad) an s;clear T a3 P an s Q bl aA aO;obtain⟨bl,aA,aO⟩:=cG.two;refine aI rfl (λK hK=>?_);go_simp;refine dz hK (((Ll.setCell (.inl (by show w.heap.size+1<w.heap.size+3;omega)) _).setCell (.inl (by show w.heap.size+1<w.heap.size+3;omega)) _).setCell (.inl (by show w.heap.size+1<w.heap.size+3;omega)) _ |>.setCell (.inl (by show w.heap.size+1<w.heap.size+3;omega)) _) ?_;clear hK K;generalize ab:World.setCell _ _ _=hl;obtain⟨bh,a7,aY⟩:=dU (M:=λ_=>False) (w:=w) [.slice g bn bP,.slice j dg cw,.slice i m o,.int .i64 (gj p).main] (by rfl) cG r.1 ad ab;have s:=r.2.2.2.on aY ad;have ao:=bL a7 (r.2.1.trans (aY.mono λb O=>ad)) (r.2.2.1.on aY ad) bh;clear ab a7 aY bh cG r bl aA aO;obtain⟨bl,aA,aO⟩:=s.two;exact eP
end Go.Proofs.YtglbpimocmhojaaGreat

/- Part 45 of the proof. No condition of its own. -/
import Derived.Test.YtkhnkojkplbioaaGreatQ27
import Derived.Test.YtkhnkojkplbioaaGreatQ42
import Derived.Test.YtkhnkojkplbioaaGreatQ44
import Derived.Test.YtkhnkojkplbioaaGreatQ47
namespace Go.Proofs.YtkhnkojkplbioaaGreat
open Go.RowKit Go.Proofs.Tryz
set_option maxRecDepth 1000000
set_option maxHeartbeats 25600000
set_option linter.unusedVariables false
variable{p:Prop}{u:ay}
def aw:ByteArray:=⟨#[109,117,116,101,120,32,97,59,32,102,117,110,99,32,109,97,105,110,40,41,32,123,32,108,111,99,107,32,97,59,32,108,111,99,107,32,97,59,32,125]⟩
def HY:ByteArray:=strOf [97]
def Fq:bP:=⟨[],[⟨HY,false,0⟩],[⟨strOf [109,97,105,110],[],.lock false ⟨HY,none⟩ (.lock false ⟨HY,none⟩ .nil)⟩]⟩
theorem wh:(dw aw.data.toList).1.length<=4001/\0<(dw aw.data.toList).1.length/\(dw aw.data.toList).2.2=0:=by decide +kernel
theorem FD:ko (dw aw.data.toList).1 10 0=some (Fq.af,Fq.funcs):=by rfl
theorem Hj:oR Fq:=by
 refine⟨?_,?_,by decide,by decide,by decide,?_,?_,?_,⟨0,_,rfl,rfl,rfl⟩,by decide⟩
 .decide
 .decide
 .decide
 .decide
 .intro f J;simp only[Fq,LO] at J;subst J;refine⟨by decide,by decide,by decide,?_⟩;have ba:su (h3 Fq ⟨strOf [109,97,105,110],[],.lock false ⟨HY,none⟩ (.lock false ⟨HY,none⟩ .nil)⟩) (fu Fq++cw []) ⟨HY,none⟩:=.inl ⟨⟨HY,false,0⟩,by simp[h3,Fq],rfl,λh=>absurd h (by decide),λ_=>rfl⟩;exact⟨ba,ba,trivial⟩
def rq:ay:=gq Fq
theorem jl:tV rq:=⟨yd Hj,ye Fq⟩
def nA:ai:=(aV rq (dG rq) 0).1
theorem HZ:(aV rq (dG rq) 0).2=true:=by decide +kernel
theorem DU:(aV rq nA 0).2=false:=by decide +kernel
theorem DT:nA.table=[⟨1,1⟩]:=by rfl
theorem wg:aX rq 1 nA:=iP jl.ok (pg jl.ok)
theorem Jx{w:World}{P:Nat->Prop}{GA MA PA:L3}{gn gc mn mc pn pc:Nat}{m:Int}(h:(uw u).rep w P [.slice GA gn gc,.slice MA mn mc,.slice PA pn pc,.int .i64 m])(a1:∀b,P b->b<w.heap.size):(⟨GA,gn,gc,MA,mn,mc,PA,pn,pc⟩:UV).Ok w u:=by
 obtain⟨_,_,_,_,_,_,_,_,_,he,ac,au,aY,hu⟩:=l6 (D.aL (c9:=av w) a1 _ _ h);injection he with e1 he;injection he with e2 he;injection he with e3 he;injection e1 with q y a3;injection e2 with ar cg v;injection e3 with c1 c2 c3;subst q y a3 ar cg v c1 c2 c3;exact⟨hu,ac,au,aY⟩
theorem Jw(s:ByteArray)(p:bP)(w:World)(aF:Nat)(hs:s.size<=4000)(hn:(dw s.data.toList).1.length<=4001)(aM:0<(dw s.data.toList).1.length)(he:(dw s.data.toList).2.2=0)(hp:ko (dw s.data.toList).1 aF 0=some (p.af,p.funcs))(a9:p.globals=[])(hw:oR p) :
  Calls prog 70 #[.string s] w λe ab=>∃q:UV,e=.returned (.agg (q.val (gq p)))/\q.Ok ab (gq p)/\Ext w ab:=by
 have H:=cH hn aM he hp a9 hw;clear hn aM he hp a9 hw;go_enter func70,ntmps70;go_upto_region 1 with(fail);generalize be:World.alloc _ _=W;have aw:=aW be;have cB:=aI be;have ah:=ag aw cB;have c5:=cB.lt;clear be aw cB;have kc:=run_bytes_of_string (P:=prog) W 9 143 5 s Tryz.underlying9 Tryz.underlying143 Tryz.underlying5;have aV:=grownCap_ge W s.size 0 5;generalize M:grownCap W s.size 0 5=cap at *;clear M;go_wp2_with(fail);generalize hV:World.alloc _ _=V;have hT:fx V W.heap.size 0 cap s:=by
  rw[<-hV];exact yw W s cap aV ad _ _
 have L:=aW hV;have ce:=ag hT L;clear hV L kc hT;refine(zd s W.heap.size 0 cap V.drew p.af p.funcs aF (ce.1.on LW.drew) hs H.1 H.2.1 H.2.2.1 H.2.2.2.1 H.2.2.2.2.2.wV (aD H.2.2.2.2.2.EG)).mono ?_;rintro e aS ⟨MA,mn,mc,FA,fn,fc,z,rfl,G,cb,aB,aN⟩;have k:Ext W aS:=ce.2.drew.trans aN;have H1:=ag G k;have cr:=k.size;clear G aN k cb aB;go_upto_region 2 with(fail);generalize hX:World.alloc _ _=X;have bs:=aW hX;have br:=aI hX;have G:hy X (av X) p none 0 MA mn FA fn:=by
  have ap:∀b,fresh V.drew aS b->X.heap[b]?=aS.heap[b]?:=λb O=>bs.block b O.2 λh=>h;have hm:∀b,fresh V.drew aS b->av X b:=λb O=>Ll O.2 bs.size;refine⟨?_,(H1.1.m.al ap).mono hm,(H1.1.f.al ap).mono hm⟩;rw[H.2.2.2.2.1];exact Sl.bR _
 have aQ:=ag G (H1.2.trans bs);obtain⟨bx,a5,aT⟩:=br.two;clear hX bs br G;go_wp2_with(fail);refine(Ey p H.2.2.2.2.2 none 0 0 MA mn mc FA fn fc X aQ.1).mono ?_;rintro e aU ⟨g,bT,bY,j,dh,cT,i,m,o,rfl,b1,aZ⟩;have bc:=ag b1 (aQ.2.trans aZ);have bN:=aZ.size;clear b1 aZ bx a5 aT;go_upto_region 3 with(fail);generalize cu:World.alloc _ _=Y;have bt:=aW cu;have bK:=aI cu;have bn:=bc.2.trans bt;have bu:=aE bt (ah.2.aj bn) (ah.1.trans bn);obtain⟨b2,ai,N⟩:=bK.two;obtain⟨bl,aA,aO⟩:=bu.2.1.two;clear cu bt bK bn;go_wp2_with(fail);generalize hX:World.setCell _ _ _=Z;obtain⟨bk,bd,bg⟩:=bw (w:=w) [.slice g bT bY,.slice j dh cT,.slice i m o,.int .i64 (gq p).main] (by rfl) bu.2.1 bu.2.2 (Lk _) hX;have bA:(⟨g,bT,bY,j,dh,cT,i,m,o⟩:UV).Ok Z (gq p):=by
  refine Jx (P:=fresh X aU) (D.aS (λb O=>(bg.block b (lY bu.1.size O.2) (lY aQ.2.size O.1)).trans (bu.1.block b O.2 λh=>h)) _ _ bc.1) λb O=>by have:=bg.size;have:=bu.1.size;have:=O.2;omega
 have bh:=ag bA bd;clear hX bd bg bl aA aO b2 ai N bA;obtain⟨bl,aA,aO⟩:=bk.two;refine LU (v:=.agg #[.slice g bT bY,.slice j dh cT,.slice i m o,.int .i64 (gq p).main]) (by simp[results,Tryz.results70,go_sem,bl]) rfl ?_;exact⟨⟨g,bT,bY,j,dh,cT,i,m,o⟩,rfl,bh.1,bh.2⟩
theorem pU(w:World)(p:UV)(q:SV)(hu:p.Ok w rq)(hs:q.Ok w (dG rq)):Calls prog 18 #[.agg (p.val rq),.agg (q.val (dG rq)),.int .i64 0] w (cV mW w nA true):=by
 have:=qv rq (dG rq) 0 0 w p q jl (pg jl.ok) ad hu hs;rw[HZ] at this;exact this
theorem DS(w:World)(p:UV)(q:SV)(hu:p.Ok w rq)(hs:q.Ok w nA):Calls prog 18 #[.agg (p.val rq),.agg (q.val nA),.int .i64 0] w (cV mW w nA false):=by
 have:=qv rq nA 0 1 w p q jl wg ad hu hs;rw[ka DU,DU] at this;exact this
namespace Dg
theorem eU(h:p:=by
 refine tf ?_;refine b9 ?_;generalize bF:World.setCell _ _ _=Z;obtain⟨bk,bd,bg⟩:=bw (w:=X) [.slice aJ aL aK,.slice bf I L,.slice bV ci bn,.int .i64 nA.fault] (by rfl) bC co gt bF;have y:(⟨aJ,aL,aK,bf,I,L,bV,ci,bn⟩:SV).Ok Z nA:=(av.al λb O=>bg.block b O.2.1 O.2.2).ok λb O=>by have:=bg.size;have:=O.2.1;omega
 have bh:=aE y bd bk;obtain⟨bx,a5,aT⟩:=(aQ.2.2.aj bd).two;obtain⟨a1,g,f⟩:=bk.two;clear bF bk bd bg y bC co gt av b2 ai N;go_wp2_with(fail);refine(DS Z ⟨GA,gn,gc,MA,mn,mc,PA,pn,pc⟩ ⟨aJ,aL,aK,bf,I,L,bV,ci,bn⟩ (aQ.1.on bh.2.1) bh.1).mono ?_;rintro e c7 ⟨⟨x,J,aF,G,v,u,cb,hW,s⟩,rfl,ac,b0⟩;have z:=ag (ac.ok λb O=>(O.resolve_left λh=>h).2) b0;clear ac b0 bx a5 aT a1 g f;dsimp only[SV.val];go_upto_region 4 with(fail);generalize cu:World.alloc _ _=Y;have bt:=aW cu;have bK:=aI cu;have l:=z.2.trans bt;have cy:I=1:=by have:=bh.1.at_.t.1;simp only[Lo,DT] at this;exact this.symm
 have bu:=cJ (bh.1.on l) (z.1.on bt) l (aQ.2.1.trans (bh.2.1.trans l)) (aQ.1.on (bh.2.1.trans l));obtain⟨a1,g,f⟩:=(bh.2.2.aj l).two;obtain⟨b2,ai,N⟩:=bK.two;have bI:=wg.small jl.ok ad;subst cy;have aX:=ae bI;clear cu bt bK l bI;go_wp2_with(fail);refine(Hr nA nA ⟨aJ,aL,aK,bf,1,L,bV,ci,bn⟩ ⟨x,J,aF,G,v,u,cb,hW,s⟩ Y bu.1 bu.2.1 aX.o).mono ?_;rintro e cS ⟨bb,rfl,U,af⟩;obtain rfl:bb=true:=U.2 rfl;have aj:=ae af;clear U b2 ai N a1 g f;obtain⟨bx,a5,aT⟩:=(aQ.2.2.aj (bh.2.1.trans (bu.2.2.1.trans af))).two;obtain⟨a1,g,f⟩:=(bh.2.2.aj (bu.2.2.1.trans af)).two;clear af;go_wp2_with(fail);refine(ED rq nA ⟨GA,gn,gc,MA,mn,mc,PA,pn,pc⟩ ⟨aJ,aL,aK,bf,1,L,bV,ci,bn⟩ cS jl.ok.vB (bu.2.2.2.2.on aj.o) (bu.1.on aj.o) (by decide) (by decide) (by have:=bu.1.at_.h.1;simp only[Lo] at this;have au:nA.threads.length=1:=rfl;show ci<=140737488355328;omega) (by decide)).mono ?_;rintro e fn ⟨bb,rfl,U,aP⟩;obtain rfl:bb=true:=U.2 (ss jl.ok wg);have M:=ae (aj.trans aP);have m:=aj.trans aP;obtain⟨a8,to,ay,q,cC,n,t0,t1⟩:=((bu.1.on m).at_.t.holds).hold (k:=0) (by show 0<1;omega);rw[DT] at n;injection n with n;subst n;simp only at q;subst q;simp only[Nat.zero_mul,Lu] at t0 t1;have heq:=FU 1 1 1 1;clear U bx a5 aT a1 g f;obtain⟨a1,g,f⟩:=(bh.2.2.aj (bu.2.2.1.trans m)).two;clear aP m;go_wp2_with(fail);go_ret;exact⟨rfl,bu.2.2.2.1.trans M.o⟩
 ):p:=h
theorem Bz(h:p:=by
 have hd:X.drew.heap.size=X.heap.size:=rfl;have F:Ext X Z/\aq Z b6.heap.size 40 #[.slice none 0 0,.slice none 0 0,.slice none 0 0,.int .i64 0]/\X.heap.size<=b6.heap.size/\∃cN:SV,(Value.agg (ar.val nA))=.agg (cN.val nA)/\cN.Is Z (λb=>X.heap.size<=b/\b<Z.heap.size/\b≠b6.heap.size) nA:=⟨((Fr.aF aZ).trans a4).trans e2,aR,ad,ar,rfl,(r.al λb O=>e2.block b (O.resolve_left λh=>h).2 λh=>h).mono λb O=>by have:=O.resolve_left λh=>h;omega⟩
 clear bF e2 aR r a4 ak aZ s2 T eE hd;revert F;generalize b6.heap.size=az;exact z1
 ):p:=h
end Dg
open Dg in
theorem DV(w:World):Calls prog 22 #[] w λe ab=>e=.returned (.bool true)/\Ext w ab:=by
 go_enter func22,ntmps22;go_wp2_with(fail);refine(show Calls prog 70 #[.string aw] w _ from Jw aw Fq w 10 (by decide) wh.1 wh.2.1 wh.2.2 FD rfl Hj).mono ?_;rintro e aS ⟨⟨GA,gn,gc,MA,mn,mc,PA,pn,pc⟩,rfl,hu,aN⟩;have H1:=ag hu aN;clear hu aN;dsimp only[UV.val];go_upto_region 2 with(fail);generalize hX:World.alloc _ _=X;have bs:=aW hX;have br:=aI hX;have H:=br.lt;have aQ:=aE (H1.1.on bs) (H1.2.trans bs) br;obtain⟨bx,a5,aT⟩:=br.two;clear hX bs br;refine rC (λ_=>False) [8] (.held 0 (.held 1 (.pick [2,7] (λi=>bif i == 2 then .pick [3,7] (λi=>bif i == 3 then .free 4 (.free 5 (.free 6 (.pick [7] (λ_=>.pick [8] (λ_=>.free 9 (.stop)))))) else .pick [3] (λ_=>.free 4 (.free 5 (.free 6 (.pick [8] (λ_=>.free 9 (.stop))))))) else .pick [2] (λ_=>.pick [3] (λ_=>.free 4 (.free 5 (.free 6 (.pick [8] (λ_=>.free 9 (.stop))))))))))) ?_
 iterate 2 refine th ?_
 refine g0 (P:=?oU) (ops:=?Ie) (Q:=?Ih) (R:=?Ij) (tails:=?Iu) (rest:=.pick [8] (λ_=>.free 9 (.stop))) (aa:=?HP)
  (C:=λ(az:Nat) (o:Value) (Y:Value) bD=>Ext X bD/\aq bD az 40 #[.slice none 0 0,.slice none 0 0,.slice none 0 0,.int .i64 0]/\X.heap.size<=az/\∃ar:SV,Y=.agg (ar.val nA)/\ar.Is bD (λb=>X.heap.size<=b/\b<bD.heap.size/\b≠az) nA) (λkey=>?wP) ?wI
 case wP=>
  refine a2 ?_ ?_
  ·
   refine aB rfl (λK hK=>?_) rfl;go_simp;refine(Jh rq X.drew ⟨GA,gn,gc,MA,mn,mc,PA,pn,pc⟩ jl (aQ.1.on (Fr.refl _ X).drew)).mono ?_;rintro e aU ⟨gM,rfl,j,aZ⟩;have ak:=j.ok λb O=>(O.resolve_left λh=>h).2;clear j;refine dq hK (aZ) ?_;clear hK K;refine a2 ?_ ?_
   ·
    refine aB rfl (λK hK=>?_) rfl;go_simp;refine(pU aU ⟨GA,gn,gc,MA,mn,mc,PA,pn,pc⟩ gM (aQ.1.on (Fr.aF aZ)) ak).mono ?_;exact By
   ·
    refine dT ?_;generalize bF:World.alloc _ _=Z;have e2:=aW bF;have aR:=aI bF;have ei:=ak.on e2;refine ao ?_;refine aB rfl (λK hK=>?_) rfl;go_simp;refine(pU Z ⟨GA,gn,gc,MA,mn,mc,PA,pn,pc⟩ gM (aQ.1.on ((Fr.aF aZ).trans e2)) ei).mono ?_;rintro e cK ⟨ar,rfl,r,a4⟩;refine dq hK (a4) ?_;clear hK K
    iterate 3 refine tf ?_
    have s2:=aZ.size;have T:=a4.size;have eE:=aR.lt;have hd:X.drew.heap.size=X.heap.size:=rfl;have F:Ext X cK/\aq cK aU.heap.size 40 #[.slice none 0 0,.slice none 0 0,.slice none 0 0,.int .i64 0]/\X.heap.size<=aU.heap.size/\∃cN:SV,(Value.agg (ar.val nA))=.agg (cN.val nA)/\cN.Is cK (λb=>X.heap.size<=b/\b<cK.heap.size/\b≠aU.heap.size) nA:=⟨((Fr.aF aZ).trans e2).trans a4,aR.aj a4,ad,ar,rfl,r.mono λb O=>by have:=O.resolve_left λh=>h;omega⟩
    clear bF e2 aR r a4 ak ei aZ s2 T eE hd;revert F;generalize aU.heap.size=az;exact z1
  ·
   refine dT ?_;generalize bF:World.drew (World.alloc _ _)=Z;have e2:=gK bF;have aR:=kx bF;refine ao ?_;refine aB rfl (λK hK=>?_) rfl;go_simp;refine(Jh rq Z ⟨GA,gn,gc,MA,mn,mc,PA,pn,pc⟩ jl (aQ.1.on e2)).mono ?_;rintro e aU ⟨gM,rfl,j,aZ⟩;have ak:=j.ok λb O=>(O.resolve_left λh=>h).2;refine dq hK (aZ) ?_;clear hK K;refine ao ?_;refine aB rfl (λK hK=>?_) rfl;go_simp;refine(pU aU ⟨GA,gn,gc,MA,mn,mc,PA,pn,pc⟩ gM (aQ.1.on (e2.trans aZ)) ak).mono ?_;rintro e b6 ⟨ar,rfl,r,a4⟩;refine dq hK (a4) ?_;clear hK K
   iterate 3 refine tf ?_
   have s2:=aZ.size;have T:=a4.size;have eE:=aR.lt;have F:Ext X b6/\aq b6 X.heap.size 40 #[.slice none 0 0,.slice none 0 0,.slice none 0 0,.int .i64 0]/\X.heap.size<=X.heap.size/\∃cN:SV,(Value.agg (ar.val nA))=.agg (cN.val nA)/\cN.Is b6 (λb=>X.heap.size<=b/\b<b6.heap.size/\b≠X.heap.size) nA:=⟨(e2.trans aZ).trans a4,(aR.aj aZ).aj a4,Lk _,ar,rfl,r.mono λb O=>by have:=O.resolve_left λh=>h;omega⟩
   clear bF e2 aR r a4 ak j aZ s2 T eE;revert F key;generalize (Value.agg (ar.val nA))=Y;generalize (Value.agg (gM.val (dG rq)))=o;intro key F;exact key X.heap.size o Y _ F
 case wI=>
  rintro az o Y bD ⟨co,bC,gt,⟨aJ,aL,aK,bf,I,L,bV,ci,bn⟩,rfl,av⟩;dsimp only[SV.val];obtain⟨b2,ai,N⟩:=bC.two;clear bx a5 aT;exact fp
theorem tV.fB(h:tV u):u.procs.length<=100000/\∀q∈u.procs,q.code.length<=100000:=by
 refine⟨by have:=h.ok.EH;omega,λq bA=>?_⟩;obtain⟨s,hs,hl,_⟩:=(h.ok.procs q bA).code;rw[hs,Lm];simp only[Lx,LG];omega
theorem IG(u:ay)(s:ai)(N:Nat)(p:UV)(q:SV)(w:World)(hU:tV u)(hS:aX u N s)(hN:N<=100000)(hu:p.Ok w u)(hs:q.Ok w s) :
  Calls prog 21 #[.agg (p.val u),.agg (q.val s)] w λe ab=>e=.returned (.bool true)/\Ext w ab:=by
 have bI:=hS.small hU.ok hN;have pd:q.hn=s.threads.length:=by have:=hs.at_.h.1;simpa using this.symm
 refine(ED u s p q w hU.ok.vB hu hs hU.fB.1 hU.fB.2 (aD bI.h) λt ht=>⟨by have:=(bI.f t ht).1;omega,λf J=>by have:=((bI.f t ht).2 f J);omega⟩).mono ?_;rintro e ab ⟨b,rfl,O,aw⟩;exact⟨by rw[O.2 (ss hU.ok hS)],aw⟩
theorem vg(s:ai)(q ar:SV)(w:World)(h:q.Ok w s)(F:ar.Ok w s)(bI:Small s):Calls prog 20 #[.agg (q.val s),.agg (ar.val s)] w λe ab=>e=.returned (.bool true)/\Ext w ab:=
 (Jq s s q ar w h F bI).mono λe ab ⟨b,he,O,aw⟩=>⟨by rw[he,O.2 rfl],aw⟩
theorem Jj(s:ai)(q ar:SV)(w:World)(h:q.Ok w s)(F:ar.Ok w s)(bI:Small s):Calls prog 71 #[.agg (q.val s),.agg (ar.val s)] w λe ab=>e=.returned (.bool true)/\Ext w ab:=
 (Hr s s q ar w h F bI).mono λe ab ⟨b,he,O,aw⟩=>⟨by rw[he,O.2 rfl],aw⟩
theorem rM{a b:World}(h:Below a.heap.size a b):Ext a b:=⟨h.os,h.tape,h.output,h.size,λk ap _=>h.block k ap⟩
namespace DC
theorem eU(h:p:=by
 refine tf ?_;refine b9 ?_;generalize bF:World.setCell _ _ _=Z;obtain⟨bk,bd,bg⟩:=bw (w:=W) [.slice aJ aL aK,.slice bf I L,.slice bV ci bn,.int .i64 S.fault] (by rfl) bC co gt bF;have y:(⟨aJ,aL,aK,bf,I,L,bV,ci,bn⟩:SV).Is Z (λb=>W.heap.size<=b/\b<Z.heap.size/\b≠az) S:=(av.al λb O=>bg.block b O.2.1 O.2.2).mono λb O=>⟨O.1,by have:=bg.size;have:=O.2.1;omega,O.2.2⟩
 have bh:=aE y bd bk;have bp:=ah.2.2.aj bd;have bI:=bd.size;obtain⟨a1,g,f⟩:=bk.two;obtain⟨bl,aA,aO⟩:=bp.two;have E:=ae bp;clear bF bk bd bg y bC co gt av b2 ai N bp;go_wp2_with(fail);generalize bF:World.setCell _ _ _=Y;obtain⟨bK,bt,bR⟩:=bw (w:=w) [.slice aJ aL aK,.slice bf I L,.slice bV ci bn,.int .i64 S.fault] (by rfl) E.o (ah.1.trans bh.2.1) ad bF;have bu:=ag bt bR;clear bF bt bR bl aA aO a1 g f;obtain⟨bl,aA,aO⟩:=bK.two;refine LU (v:=.agg #[.slice aJ aL aK,.slice bf I L,.slice bV ci bn,.int .i64 S.fault]) (by simp[results,Tryz.results23,go_sem,bl]) rfl ?_;have cV:=bu.2.size;exact⟨⟨aJ,aL,aK,bf,I,L,bV,ci,bn⟩,rfl,(bh.1.al λb O=>bu.2.block b O.2.1 (aD O.1)).mono λb O=>⟨by have:=O.1;omega,by have:=O.2.1;omega⟩,bu.1⟩
 ):p:=h
theorem Bz(h:p:=by
 have hd:W.drew.heap.size=W.heap.size:=rfl;have F:Ext W Z/\aq Z b6.heap.size 40 #[.slice none 0 0,.slice none 0 0,.slice none 0 0,.int .i64 0]/\W.heap.size<=b6.heap.size/\∃cN:SV,(Value.agg (ar.val S))=.agg (cN.val S)/\cN.Is Z (λb=>W.heap.size<=b/\b<Z.heap.size/\b≠b6.heap.size) S:=⟨((Fr.aF aZ).trans a4).trans e2,aR,ad,ar,rfl,(r.al λb O=>e2.block b O.2 λh=>h).mono λb O=>ad⟩
 clear bF e2 aR r a4 aZ s2 T eE hd bc bj ca;revert F;generalize b6.heap.size=az;exact z5
 ):p:=h
end DC
open DC in
theorem wQ(u:ay)(p:UV)(A:L3)(n c:Nat)(l:List Int)(w:World)(hU:tV u)(hu:p.Ok w u)(hl:cp (EF cP) 1 w w.heap.size A n l) :
  Calls prog 23 #[.agg (p.val u),.slice A n c] w λe ab=>∃q:SV,e=.returned (.agg (q.val (gE u (dG u) (cr l 60))))/\q.Is ab (fresh w ab) (gE u (dG u) (cr l 60))/\Ext w ab:=by
 obtain⟨GA,gn,gc,MA,mn,mc,PA,pn,pc⟩:=p;have hlen:(cr l 60).length<=60:=by unfold cr;rw[Lo,List.length_take];omega
 have hex:∃S,gE u (dG u) (cr l 60)=S:=⟨_,rfl⟩
 obtain⟨S,hS⟩:=hex;have z:∃m:Nat,(iU u (dG u) (cr l 60)).length=m:=⟨_,rfl⟩
 obtain⟨m,hm⟩:=z;have cD:=bJ hU hlen hS hm;have d4:∀(B:L3) (k d:Nat) (V:World),(⟨GA,gn,gc,MA,mn,mc,PA,pn,pc⟩:UV).Ok V u->cp (EF cP) 1 V V.heap.size B k (cr l 60)->k<=60->Calls prog 37 #[.agg ((⟨GA,gn,gc,MA,mn,mc,PA,pn,pc⟩:UV).val u),.slice B k d] V (zC V S m):=by
  intro B k d V ac au aY;have:=Kb u (cr l 60) B k d V ⟨GA,gn,gc,MA,mn,mc,PA,pn,pc⟩ cD.1 ac au ad;rw[cD.2.2.1,cD.2.2.2] at this;exact this
 have a3:=ae d4;rw[hS];have H:=ag hu hl;clear hU hu hl hlen hS hm d4;dsimp only[UV.val];go_enter func23,ntmps23;go_upto_region 1 with(fail);generalize be:World.alloc _ _=W;have aw:=iS be;have c4:aq W w.heap.size 30 #[.slice GA gn gc,.slice MA mn mc,.slice PA pn pc,.int .i64 u.main]:=be▸(LX).alloc _;have cx:=gf be;have ah:=aE aw c4 cx;have am:=cx.lt;have j:=ag (H.1.on aw) (H.2.c8 aw.ext aw.size);obtain⟨bx,a5,aT⟩:=c4.two;clear be aw c4 cx;refine rC (λ_=>False) [8] (.held 0 (.free 1 (.pick [2,7] (λi=>bif i == 2 then .pick [3,7] (λi=>bif i == 3 then .free 4 (.free 5 (.free 6 (.pick [7] (λ_=>.pick [8] (λ_=>.free 9 (.stop)))))) else .pick [3] (λ_=>.free 4 (.free 5 (.free 6 (.pick [8] (λ_=>.free 9 (.stop))))))) else .pick [2] (λ_=>.pick [3] (λ_=>.free 4 (.free 5 (.free 6 (.pick [8] (λ_=>.free 9 (.stop))))))))))) ?_;refine th ?_;refine tf ?_;refine g0 (P:=?oU) (ops:=?Ie) (Q:=?Ih) (R:=?Ij) (tails:=?Iu) (rest:=.pick [8] (λ_=>.free 9 (.stop))) (aa:=?HP)
  (C:=λ(az:Nat) (o:Value) (Y:Value) bD=>Ext W bD/\aq bD az 40 #[.slice none 0 0,.slice none 0 0,.slice none 0 0,.int .i64 0]/\W.heap.size<=az/\∃ar:SV,Y=.agg (ar.val S)/\ar.Is bD (λb=>W.heap.size<=b/\b<bD.heap.size/\b≠az) S) (λkey=>?wP) ?wI
 case wP=>
  refine a2 ?_ ?_
  ·
   refine aB rfl (λK hK=>?_) rfl;go_simp;refine(sc A n c 60 l W.drew (j.2.c8 (Below.drew (Below.refl _ _)) (Lk _)) ad).mono ?_;rintro e aU ⟨A2,c2,rfl,ca,bc,bj⟩;have aZ:Ext W.drew aU:=rM bj;have s:(cr l 60).length<=60:=cD.2.1;generalize dk:(cr l 60).length=ak at ca bc s ⊢;clear dk;refine dq hK (aZ) ?_;clear hK K;refine a2 ?_ ?_
   ·
    refine aB rfl (λK hK=>?_) rfl;go_simp;refine(a3.o A2 ak c2 aU (j.1.on (Fr.aF aZ)) bc s).mono ?_;exact By
   ·
    refine dT ?_;generalize bF:World.alloc _ _=Z;have e2:=aW bF;have aR:=aI bF;refine ao ?_;refine aB rfl (λK hK=>?_) rfl;go_simp;refine(a3.o A2 ak c2 Z (j.1.on ((Fr.aF aZ).trans e2)) (bc.c8 e2.ext e2.size) s).mono ?_;rintro e cK ⟨ar,rfl,r,a4⟩;refine dq hK (a4) ?_;clear hK K
    iterate 3 refine tf ?_
    have s2:=aZ.size;have T:=a4.size;have eE:=aR.lt;have hd:W.drew.heap.size=W.heap.size:=rfl;have F:Ext W cK/\aq cK aU.heap.size 40 #[.slice none 0 0,.slice none 0 0,.slice none 0 0,.int .i64 0]/\W.heap.size<=aU.heap.size/\∃cN:SV,(Value.agg (ar.val S))=.agg (cN.val S)/\cN.Is cK (λb=>W.heap.size<=b/\b<cK.heap.size/\b≠aU.heap.size) S:=⟨((Fr.aF aZ).trans e2).trans a4,aR.aj a4,ad,ar,rfl,r.mono λb O=>ad⟩
    clear bF e2 aR r a4 aZ s2 T eE hd bc bj ca;revert F;generalize aU.heap.size=az;exact z5
  ·
   refine dT ?_;generalize bF:World.drew (World.alloc _ _)=Z;have e2:=gK bF;have aR:=kx bF;refine ao ?_;refine aB rfl (λK hK=>?_) rfl;go_simp;refine(sc A n c 60 l Z (j.2.c8 e2.ext e2.size) ad).mono ?_;rintro e aU ⟨A2,c2,rfl,ca,bc,bj⟩;have aZ:Ext Z aU:=rM bj;have s:(cr l 60).length<=60:=cD.2.1;generalize dk:(cr l 60).length=ak at ca bc s ⊢;clear dk;refine dq hK (aZ) ?_;clear hK K;refine ao ?_;refine aB rfl (λK hK=>?_) rfl;go_simp;refine(a3.o A2 ak c2 aU (j.1.on (e2.trans aZ)) bc s).mono ?_;rintro e b6 ⟨ar,rfl,r,a4⟩;refine dq hK (a4) ?_;clear hK K
   iterate 3 refine tf ?_
   have s2:=aZ.size;have T:=a4.size;have eE:=aR.lt;have F:Ext W b6/\aq b6 W.heap.size 40 #[.slice none 0 0,.slice none 0 0,.slice none 0 0,.int .i64 0]/\W.heap.size<=W.heap.size/\∃cN:SV,(Value.agg (ar.val S))=.agg (cN.val S)/\cN.Is b6 (λb=>W.heap.size<=b/\b<b6.heap.size/\b≠W.heap.size) S:=⟨(e2.trans aZ).trans a4,(aR.aj aZ).aj a4,Lk _,ar,rfl,r.mono λb O=>ad⟩
   clear bF e2 aR r a4 aZ s2 T eE bc bj ca;revert F key;generalize (Value.agg (ar.val S))=Y;generalize (Value.slice A2 ak c2)=o;intro key F;exact key W.heap.size o Y _ F
 case wI=>
  rintro az o Y bD ⟨co,bC,gt,⟨aJ,aL,aK,bf,I,L,bV,ci,bn⟩,rfl,av⟩;dsimp only[SV.val];obtain⟨b2,ai,N⟩:=bC.two;clear bx a5 aT;exact fp
theorem uM(u:ay)(p:UV)(A:L3)(n c:Nat)(l:List Int)(w:World)(hU:tV u)(hu:p.Ok w u)(hl:cp (EF cP) 1 w w.heap.size A n l) :
  Calls prog 23 #[.agg (p.val u),.slice A n c] w λe ab=>∃q:SV,e=.returned (.agg (q.val (gE u (dG u) (cr l 60))))/\q.Ok ab (gE u (dG u) (cr l 60))/\Ext w ab:=
 (wQ u p A n c l w hU hu hl).mono λ_ _ ⟨q,he,bA,aw⟩=>⟨q,he,bA.ok λb O=>O.2,aw⟩
theorem Gu(u:ay)(hU:tV u)(l:List Int):aX u 60 (gE u (dG u) (cr l 60)):=by
 have h:=w9 hU.ok (cr l 60) 0 (dG u) (pg hU.ok);have hl:(cr l 60).length<=60:=by unfold cr;rw[Lo,List.length_take];omega
 exact h.mono ad
theorem jf{s:ai}{t:Int}(h:s.fault≠0):aV u s t=(s,false):=by
 unfold aV de;simp[h]
end Go.Proofs.YtkhnkojkplbioaaGreat

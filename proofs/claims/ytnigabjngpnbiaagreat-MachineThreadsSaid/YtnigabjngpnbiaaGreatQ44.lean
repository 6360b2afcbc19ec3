/- Part 44 of the proof. No condition of its own. -/
import Derived.Test.YtnigabjngpnbiaaGreatQ27
import Derived.Test.YtnigabjngpnbiaaGreatQ43
namespace Go.Proofs.YtnigabjngpnbiaaGreat
open Go.RowKit Go.Proofs.Tryz
set_option maxRecDepth 1000000
set_option maxHeartbeats 25600000
set_option linter.unusedVariables false
variable{p:Prop}{u:ay}
namespace B0
theorem gL(h:p:=by
 have bC:gn=u.globals.length:=by have:=hu.at_.g.1;simpa using this.symm
 have cj:cg=s.globals.length:=by have:=hs.at_.g.1;simpa using this.symm
 have bG:hn=s.threads.length:=by have:=hs.at_.h.1;simpa using this.symm
 have M:Kl (rO u s↔cg=gn/\1<=hn/\hn<=32/\0<=s.fault/\s.fault<=4/\gq u.af s.table hn=true/\∀t∈s.threads,∀f∈t,gp u f):=ae (by rw[bC,cj,bG];exact Iff.rfl);have bF:=dq hX hu hs bB a8 T;clear hX hu hs bB a8 T bC cj bG;simp only at pJ;dsimp only[UV.val,SV.val];generalize rO u s=o at *;generalize n:s.fault=J at *;clear n;go_enter func14,ntmps14;go_upto_region 1 with(fail);generalize ba:World.alloc _ _=W;have ar:=jN ba;have bH:=fQ ba;have bJ:=fR ba;have ab:=av ar bH bJ;obtain⟨a0,al,af⟩:=bH.two;obtain⟨b0,am,aw⟩:=bJ.two;clear ba ar bH bJ;by_cases e1:¬cg=gn
 .have l:((cg:Int) != (gn:Int))=true:=by simp;omega
  exact x2
 have l:((cg:Int) != (gn:Int))=false:=by simp;omega
 have i:=ae e1;clear e1;by_cases e2:(hn:Int)<1
 .have m:decide ((hn:Int)<1)=true:=decide_eq_true e2;have j:=ae e2;clear e2;go_wp2_with(fail);go_ret;exact⟨false,rfl,⟨λh=>(by cases h),λh=>absurd (M.1 h).2.1 (aC j.o)⟩,ab.1⟩
 have m:decide ((hn:Int)<1)=false:=decide_eq_false e2;have k:=ae e2;clear e2;by_cases e3:(hn:Int) > 32
 .have I:decide ((hn:Int) > 32)=true:=decide_eq_true e3;have j:=ae e3;clear e3;go_wp2_with(fail);go_ret;exact⟨false,rfl,⟨λh=>(by cases h),λh=>absurd (M.1 h).2.2.1 (aC j.o)⟩,ab.1⟩
 have I:decide ((hn:Int) > 32)=false:=decide_eq_false e3;have r:=ae e3;clear e3;by_cases cn:J<0
 .have K:decide (J<0)=true:=decide_eq_true cn;have j:=ae cn;clear cn;go_wp2_with(fail);go_ret;exact⟨false,rfl,⟨λh=>(by cases h),λh=>absurd (M.1 h).2.2.2.1 (aC j.o)⟩,ab.1⟩
 have K:decide (J<0)=false:=decide_eq_false cn;have y:=ae cn;clear cn;by_cases ci:J > 4
 .have L:decide (J > 4)=true:=decide_eq_true ci;have j:=ae ci;clear ci;go_wp2_with(fail);go_ret;exact⟨false,rfl,⟨λh=>(by cases h),λh=>absurd (M.1 h).2.2.2.2.1 (aC j.o)⟩,ab.1⟩
 have L:decide (J > 4)=false:=decide_eq_false ci;have z:=ae ci;clear ci;go_wp2_with(fail);refine(xF MA TA mn mc tn tc u.af s.table hn W ((bF.2.1.on ab.1).at_.m.na) bF.1 ((bF.2.2.1.on ab.1).at_.t.holds)).mono ?_;rintro e aL ⟨rfl,bY⟩;have ag:Ext W aL:=Fr.of bY;have H1:=ak ag (ab.1.trans ag);clear a0 al af b0 am aw bY;obtain⟨a0,al,af⟩:=(ab.2.1.aj ag).two;obtain⟨b0,am,aw⟩:=(ab.2.2.aj ag).two;clear ag
 cases bD:gq u.af s.table hn with
 | false=>
  have bR:=ae bD;clear bD;go_wp2_with(fail);go_ret
  exact⟨false,rfl,⟨λh=>(by cases h),λh=>by have ac:=(M.1 h).2.2.2.2.2.1;rw[bR.o] at ac;cases ac⟩,H1.2⟩
 | true=>
  have bR:=ae bD;clear bD;go_wp2_with(fail);refine(g4 MA mn mc u.af aL ((bF.2.1.on H1.2).at_.m.na) bF.1).mono ?_;rintro e aV ⟨rfl,bv⟩;have aO:Ext aL aV:=Fr.of bv;have bO:=ak (H1.1.trans aO) (H1.2.trans aO);clear a0 al af b0 am aw bv aO;go_upto_region 6 with(fail);generalize hX:World.alloc _ _=X;have bf:=aY hX;have a6:=aF hX;have ca:=bO.1.trans bf;have aJ:=av a6 ca (ab.1.trans ca);obtain⟨a0,al,af⟩:=(ab.2.1.aj ca).two;obtain⟨b0,am,aw⟩:=(ab.2.2.aj ca).two;obtain⟨bl,U,aE⟩:=a6.two;clear hX bf a6 ca;go_wp2_with(fail);refine(ue HA hn hc s.threads u ⟨GA,gn,gc,MA,mn,mc,PA,pn,pc⟩ w.heap.size aV.heap.size X (bF.2.2.1.on aJ.2.2).at_.h pJ (bF.2.1.on aJ.2.2) bF.2.2.2.1 bF.2.2.2.2.1 (ab.2.1.aj aJ.2.1) aJ.1 bF.2.2.2.2.2).mono ?_;rintro e bV ⟨bb,rfl,H,a7⟩;have cb:=ak H (aJ.2.2.trans a7);clear H a7 a0 al af b0 am aw bl U aE;go_wp2_with(fail);go_ret;refine⟨!bb,rfl,⟨λh=>M.2 ⟨by have:=i.o;omega,by have:=k.o;omega,by have:=r.o;omega,by have:=y.o;omega,by have:=z.o;omega,bR.o,λt ht f aA=>?_⟩,λh=>?_⟩,cb.2⟩
  .have O:¬bb=true:=by cases bb<;>simp at h ⊢
   exact Classical.byContradiction λhn=>O (cb.1.2 ⟨t,ht,f,aA,hn⟩)
  .have g:=(M.1 h).2.2.2.2.2.2
   cases O:bb with
   | false=>rfl
   | true=>
    obtain⟨t,ht,f,aA,hn⟩:=cb.1.1 O;exact absurd (g t ht f aA) hn
 ):p:=h
end B0
open B0 in
theorem GJ(u:ay)(s:ah)(p:UV)(q:SV)(w:World)(hX:l5 u.af)(hu:p.Ok w u)(hs:q.Ok w s)(bB:u.procs.length<=100000)(a8:∀q∈u.procs,q.code.length<=100000)(pJ:q.hn<=140737488355328)(T:∀t∈s.threads,t.length<=140737488355328/\∀f∈t,f.aq.length<=140737488355328) :
  Calls prog 14 #[.agg (p.val u),.agg (q.val s)] w (hy w (rO u s)):=by
 exact gK
theorem xE{D:Nat}{s:ah}(hU:de u)(h:aV u D s):rO u s:=by
 refine⟨h.c5,h.xB.1,h.xB.2,h.fault.1,h.fault.2,m0 h.table λk hd aj=>?_,λt ht f aA=>?_⟩
 .have an:=h.holds k hd aj;have bb:=an.owner;have a:=an.depth;unfold ee;rw[decide_eq_false (show ¬hd.owner<0 by omega),decide_eq_false (show ¬(s.threads.length:Int)<hd.owner by omega),decide_eq_false (show ¬hd.depth<0 by omega)];have aD:((hd.owner == 0) != (hd.depth == 0))=false:=by
   by_cases h0:hd.owner=0
   .rw[h0,an.C3.1 h0];rfl
   .have ac:¬hd.depth=0:=λh=>h0 (an.C3.2 h);rw[show (hd.owner == 0)=false by simpa using h0,show (hd.depth == 0)=false by simpa using ac];rfl
  rw[aD];by_cases cl:1<hd.depth
  .rw[an.re cl];simp
  .rw[decide_eq_false cl];rfl
 .have hF:=(h.eM t ht).2 f aA;obtain⟨p,ac,ap,aD,bt⟩:=hF.ex;exact⟨hF.proc,hF.pc,p,ac,ap,aD,bt,hF.aq⟩
theorem IH{w:World}{P:Nat->Prop}{GA MA PA:Kj}{gn gc mn mc pn pc:Nat}{m:Int}(h:(CS u).rep w P [.slice GA gn gc,.slice MA mn mc,.slice PA pn pc,.int .i64 m])(S:∀b,P b->b<w.heap.size):(⟨GA,gn,gc,MA,mn,mc,PA,pn,pc⟩:UV).Ok w u:=by
 obtain⟨_,_,_,_,_,_,_,_,_,he,ac,ap,aD,hu⟩:=ua (D.aA (c5:=ao w) S _ _ h);injection he with e1 he;injection he with e2 he;injection he with e3 he;injection e1 with q y a3;injection e2 with av b2 s;injection e3 with c1 c2 c3;subst q y a3 av b2 s c1 c2 c3;exact⟨hu,ac,ap,aD⟩
namespace B1
theorem zY(h:p:=by
 have g:fU X (ao X) p none 0 MA mn FA fn:=by
  have aj:∀b,fresh V.drew aL b->X.heap[b]?=aL.heap[b]?:=λb O=>bf.block b O.2 λh=>h;have hm:∀b,fresh V.drew aL b->ao X b:=λb O=>JJ O.2 bf.size;refine⟨?_,(H1.1.m.al aj).mono hm,(H1.1.f.al aj).mono hm⟩;rw[H.2.2.2.2.1];exact Sl.c7 _
 have aJ:=ak g (H1.2.trans bf);obtain⟨bl,U,aE⟩:=a6.two;clear hX bf a6 g;go_wp2_with(fail);refine(Dc p H.2.2.2.2.2 none 0 0 MA mn mc FA fn fc X aJ.1).mono ?_;exact Fl
 ):p:=h
theorem y3(h:p:=by
 refine(xp s W.heap.size 0 cap V.drew p.af p.funcs b8 (bR.1.on Kf.drew) hs H.1 H.2.1 H.2.2.1 H.2.2.2.1 H.2.2.2.2.2.uC (aC H.2.2.2.2.2.xl)).mono ?_;exact zX
 ):p:=h
end B1
open B1 in
theorem HS(s:ByteArray)(p:bC)(w:World)(b8:Nat)(hs:s.size<=4000)(hn:(cd s.data.toList).1.length<=4001)(ai:0<(cd s.data.toList).1.length)(he:(cd s.data.toList).2.2=0)(hp:jK (cd s.data.toList).1 b8 0=some (p.af,p.funcs))(aS:p.globals=[])(hw:nE p) :
  Calls prog 5 #[.string s] w λe J=>∃q:UV,e=.returned (.agg (q.val (hY p)))/\q.Ok J (hY p)/\Ext w J:=by
 exact y2
theorem nY(w:World)(p:UV)(q:SV)(hu:p.Ok w pE)(hs:q.Ok w (dI pE)):Calls prog 8 #[.agg (p.val pE),.agg (q.val (dI pE)),.int .i64 0] w (cH lO w ma true):=by
 have:=Dh pE (dI pE) 0 0 w p q iv (nw iv.ok) ad hu hs;rw[Gx] at this;exact this
theorem Cv(w:World)(p:UV)(q:SV)(hu:p.Ok w pE)(hs:q.Ok w ma):Calls prog 8 #[.agg (p.val pE),.agg (q.val ma),.int .i64 0] w (cH lO w ma false):=by
 have:=Dh pE ma 0 1 w p q iv tR ad hu hs;rw[jx Cx,Cx] at this;exact this
namespace B2
theorem gO(h:p:=by
 refine tf ?_;refine cY ?_;generalize aI:World.setCell _ _ _=Z;obtain⟨bq,a5,a4⟩:=bk (w:=X) [.slice aZ aW aS,.slice bI aG z,.slice bK ah r,.int .i64 ma.fault] (by rfl) j aA dA aI;have g:(⟨aZ,aW,aS,bI,aG,z,bK,ah,r⟩:SV).Ok Z ma:=(aN.al λb O=>a4.block b O.2.1 O.2.2).ok λb O=>by have:=a4.size;have:=O.2.1;omega
 have bn:=av g a5 bq;obtain⟨bl,U,aE⟩:=(aJ.2.2.aj a5).two;obtain⟨a3,s,an⟩:=bq.two;clear aI bq a5 a4 g j aA dA aN cD aQ aR;go_wp2_with(fail);refine(Cv Z ⟨GA,gn,gc,MA,mn,mc,PA,pn,pc⟩ ⟨aZ,aW,aS,bI,aG,z,bK,ah,r⟩ (aJ.1.on bn.2.1) bn.1).mono ?_;rintro e cy ⟨⟨S,aj,af,ac,I,G,M,y,x⟩,rfl,aP,b5⟩;have cX:=ak (aP.ok λb O=>(O.resolve_left λh=>h).2) b5;clear aP b5 bl U aE a3 s an;dsimp only[SV.val];go_upto_region 4 with(fail);generalize cm:World.alloc _ _=Y;have ce:=aY cm;have bA:=aF cm;have m:=cX.2.trans ce;have cn:aG=1:=by have:=bn.1.at_.t.1;simp only[JM,Cw] at this;exact this.symm
 have bw:=dT (bn.1.on m) (cX.1.on ce) m (aJ.2.1.trans (bn.2.1.trans m)) (aJ.1.on (bn.2.1.trans m));obtain⟨a3,s,an⟩:=(bn.2.2.aj m).two;obtain⟨cD,aQ,aR⟩:=bA.two;have T:=tR.small iv.ok ad;subst cn;have aT:=ae T;clear cm ce bA m T;go_wp2_with(fail);refine(HD ma ma ⟨aZ,aW,aS,bI,1,z,bK,ah,r⟩ ⟨S,aj,af,ac,I,G,M,y,x⟩ Y bw.1 bw.2.1 aT.o).mono ?_;rintro e cJ ⟨bb,rfl,H,l⟩;obtain rfl:bb=true:=H.2 rfl;have ab:=ae l;clear H cD aQ aR a3 s an;obtain⟨bl,U,aE⟩:=(aJ.2.2.aj (bn.2.1.trans (bw.2.2.1.trans l))).two;obtain⟨a3,s,an⟩:=(bn.2.2.aj (bw.2.2.1.trans l)).two;clear l;go_wp2_with(fail);refine(GJ pE ma ⟨GA,gn,gc,MA,mn,mc,PA,pn,pc⟩ ⟨aZ,aW,aS,bI,1,z,bK,ah,r⟩ cJ iv.ok.xK (bw.2.2.2.2.on ab.o) (bw.1.on ab.o) (by decide) (by decide) (by have:=bw.1.at_.h.1;simp only[JM] at this;have ap:ma.threads.length=1:=rfl;show ah<=140737488355328;omega) (by decide)).mono ?_;rintro e fN ⟨bb,rfl,H,q⟩;obtain rfl:bb=true:=H.2 (xE iv.ok tR);have V:=ae (ab.trans q);have n:=ab.trans q;obtain⟨al,to,N,u,cz,o,t0,t1⟩:=((bw.1.on n).at_.t.holds).hold (k:=0) (by show 0<1;omega);rw[Cw] at o;injection o with o;subst o;simp only at u;subst u;simp only[Nat.zero_mul,JS] at t0 t1;have heq:=Ek 1 1 1 1;clear H bl U aE a3 s an;obtain⟨a3,s,an⟩:=(bn.2.2.aj (bw.2.2.1.trans n)).two;clear q n;go_wp2_with(fail);go_ret;exact⟨rfl,bw.2.2.2.1.trans V.o⟩
 ):p:=h
end B2
open B2 in
theorem Gy(w:World):Calls prog 11 #[] w λe J=>e=.returned (.bool true)/\Ext w J:=by
 go_enter func11,ntmps11;go_wp2_with(fail);refine(show Calls prog 5 #[.string aw] w _ from HS aw DS w 10 (by decide) tS.1 tS.2.1 tS.2.2 D5 rfl FT).mono ?_;rintro e aL ⟨⟨GA,gn,gc,MA,mn,mc,PA,pn,pc⟩,rfl,hu,ag⟩;have H1:=ak hu ag;clear hu ag;dsimp only[UV.val];go_upto_region 2 with(fail);generalize hX:World.alloc _ _=X;have bf:=aY hX;have a6:=aF hX;have bp:=a6.lt;have aJ:=av (H1.1.on bf) (H1.2.trans bf) a6;obtain⟨bl,U,aE⟩:=a6.two;clear hX bf a6;refine uU (λ_=>False) [8] (.held 0 (.held 1 (.pick [2,7] (λi=>bif i == 2 then .pick [3,7] (λi=>bif i == 3 then .free 4 (.free 5 (.free 6 (.pick [7] (λ_=>.pick [8] (λ_=>.free 9 (.stop)))))) else .pick [3] (λ_=>.free 4 (.free 5 (.free 6 (.pick [8] (λ_=>.free 9 (.stop))))))) else .pick [2] (λ_=>.pick [3] (λ_=>.free 4 (.free 5 (.free 6 (.pick [8] (λ_=>.free 9 (.stop))))))))))) ?_
 iterate 2 refine th ?_
 refine po (P:=?rZ) (ops:=?HZ) (Q:=?H3) (R:=?H4) (tails:=?H6) (rest:=.pick [8] (λ_=>.free 9 (.stop))) (aa:=?HW)
  (C:=λ(L:Nat) (v:Value) (Y:Value) ai=>Ext X ai/\au ai L 31 #[.slice none 0 0,.slice none 0 0,.slice none 0 0,.int .i64 0]/\X.heap.size<=L/\∃ao:SV,Y=.agg (ao.val ma)/\ao.Is ai (λb=>X.heap.size<=b/\b<ai.heap.size/\b≠L) ma) (λkey=>?Ev) ?Es
 case Ev=>
  refine b1 ?_ ?_
  ·
   refine bD rfl (λK hK=>?_) rfl;go_simp;refine(GI pE X.drew ⟨GA,gn,gc,MA,mn,mc,PA,pn,pc⟩ iv (aJ.1.on (Fr.refl _ X).drew)).mono ?_;rintro e aV ⟨ay,rfl,f,aO⟩;have aD:=f.ok λb O=>(O.resolve_left λh=>h).2;clear f;refine gu hK (aO) ?_;clear hK K;refine b1 ?_ ?_
   ·
    refine bD rfl (λK hK=>?_) rfl;go_simp;refine(nY aV ⟨GA,gn,gc,MA,mn,mc,PA,pn,pc⟩ ay (aJ.1.on (Fr.aL aO)) aD).mono ?_;rintro e bV ⟨ao,rfl,az,a7⟩;refine gu hK (a7) ?_;clear hK K
    iterate 3 refine tf ?_
    refine aB ?_;refine gX ?_;generalize aI:World.alloc _ _=Z;have e2:=aY aI;have aK:=aF aI;have s2:=aO.size;have bs:=a7.size;have ew:=e2.size;have hd:X.drew.heap.size=X.heap.size:=rfl;have F:Ext X Z/\au Z bV.heap.size 31 #[.slice none 0 0,.slice none 0 0,.slice none 0 0,.int .i64 0]/\X.heap.size<=bV.heap.size/\∃cM:SV,(Value.agg (ao.val ma))=.agg (cM.val ma)/\cM.Is Z (λb=>X.heap.size<=b/\b<Z.heap.size/\b≠bV.heap.size) ma:=⟨((Fr.aL aO).trans a7).trans e2,aK,ad,ao,rfl,(az.al λb O=>e2.block b (O.resolve_left λh=>h).2 λh=>h).mono λb O=>by have:=O.resolve_left λh=>h;omega⟩
    clear aI e2 aK az a7 aD aO s2 bs ew hd;revert F;generalize bV.heap.size=L;exact ye
   ·
    refine gX ?_;generalize aI:World.alloc _ _=Z;have e2:=aY aI;have aK:=aF aI;have dH:=aD.on e2;refine aB ?_;refine bD rfl (λK hK=>?_) rfl;go_simp;refine(nY Z ⟨GA,gn,gc,MA,mn,mc,PA,pn,pc⟩ ay (aJ.1.on ((Fr.aL aO).trans e2)) dH).mono ?_;rintro e cE ⟨ao,rfl,az,a7⟩;refine gu hK (a7) ?_;clear hK K
    iterate 3 refine tf ?_
    have s2:=aO.size;have bs:=a7.size;have ew:=aK.lt;have hd:X.drew.heap.size=X.heap.size:=rfl;have F:Ext X cE/\au cE aV.heap.size 31 #[.slice none 0 0,.slice none 0 0,.slice none 0 0,.int .i64 0]/\X.heap.size<=aV.heap.size/\∃cM:SV,(Value.agg (ao.val ma))=.agg (cM.val ma)/\cM.Is cE (λb=>X.heap.size<=b/\b<cE.heap.size/\b≠aV.heap.size) ma:=⟨((Fr.aL aO).trans e2).trans a7,aK.aj a7,ad,ao,rfl,az.mono λb O=>by have:=O.resolve_left λh=>h;omega⟩
    clear aI e2 aK az a7 aD dH aO s2 bs ew hd;revert F;generalize aV.heap.size=L;exact ye
  ·
   refine gX ?_;generalize aI:World.drew (World.alloc _ _)=Z;have e2:=jW aI;have aK:=vF aI;refine aB ?_;refine bD rfl (λK hK=>?_) rfl;go_simp;refine(GI pE Z ⟨GA,gn,gc,MA,mn,mc,PA,pn,pc⟩ iv (aJ.1.on e2)).mono ?_;rintro e aV ⟨ay,rfl,f,aO⟩;have aD:=f.ok λb O=>(O.resolve_left λh=>h).2;refine gu hK (aO) ?_;clear hK K;refine aB ?_;refine bD rfl (λK hK=>?_) rfl;go_simp;refine(nY aV ⟨GA,gn,gc,MA,mn,mc,PA,pn,pc⟩ ay (aJ.1.on (e2.trans aO)) aD).mono ?_;rintro e bV ⟨ao,rfl,az,a7⟩;refine gu hK (a7) ?_;clear hK K
   iterate 3 refine tf ?_
   have s2:=aO.size;have bs:=a7.size;have ew:=aK.lt;have F:Ext X bV/\au bV X.heap.size 31 #[.slice none 0 0,.slice none 0 0,.slice none 0 0,.int .i64 0]/\X.heap.size<=X.heap.size/\∃cM:SV,(Value.agg (ao.val ma))=.agg (cM.val ma)/\cM.Is bV (λb=>X.heap.size<=b/\b<bV.heap.size/\b≠X.heap.size) ma:=⟨(e2.trans aO).trans a7,(aK.aj aO).aj a7,JI _,ao,rfl,az.mono λb O=>by have:=O.resolve_left λh=>h;omega⟩
   clear aI e2 aK az a7 aD f aO s2 bs ew;revert F key;generalize (Value.agg (ao.val ma))=Y;generalize (Value.agg (ay.val (dI pE)))=v;intro key F;exact key X.heap.size v Y _ F
 case Es=>
  rintro L v Y ai ⟨aA,j,dA,⟨aZ,aW,aS,bI,aG,z,bK,ah,r⟩,rfl,aN⟩;dsimp only[SV.val];obtain⟨cD,aQ,aR⟩:=j.two;clear bl U aE;exact gN
namespace Ce
theorem tu(h:p:=by
 rw[b6.o];exact eE (B:=V.heap.size) bw.1 bn.2.drew (λb O=>⟨λhl=>by have:=G.o b hl;omega,ad⟩) (λb O=>by have:=G.o b O;omega) ad bn.1.drew (by rw[wv br.2.1,List.set_set])
 ):p:=h
theorem eI(h:p:=by
 generalize hX:World.setCell _ _ _=Y;obtain⟨r,bA⟩:=aJ.1.drop hX;have L:=da hX;have z:=(aJ.1.lo O (by simp)).1;have i:Ext V Y:=Fr.low (M:=λb=>b=O) (Fr.trans (Fr.mono aJ.2.1 λ_ h=>h.elim) L) λb O=>ad;have bw:=av r bA (b9.trans i);have aK:=i.size;clear hX r bA L i a0 al af b0 am aw d0 aQ aR e0 bl bm c0 c1 c2 c3 J flb Q;exact tt
 ):p:=h
theorem Aa(h:p:=by
 iterate 3 refine pf ?_
 exact gM
 ):p:=h
theorem qS(h:p:=by
 clear cX ch ca;rcases dp.o with h|h
 all_goals
  first
   | have q1:(x.op == 1)=true:=by simpa using h
   | have q1:(x.op == 1)=false:=by simp;omega
  first
   | have cM:(x.op == 2)=true:=by simpa using h
   | have cM:(x.op == 2)=false:=by simp;omega
  first
   | have c7:(x.op == 3)=true:=by simpa using h
   | have c7:(x.op == 3)=false:=by simp;omega
  first
   | have c8:(x.op == 4)=true:=by simpa using h
   | have c8:(x.op == 4)=false:=by simp;omega
  first
   | have q5:(x.op == 5)=true:=by simpa using h
   | have q5:(x.op == 5)=false:=by simp;omega
  first
   | have dl:(x.op == 6)=true:=by simpa using h
   | have dl:(x.op == 6)=false:=by simp;omega
  first
   | have q7:(x.op == 7)=true:=by simpa using h
   | have q7:(x.op == 7)=false:=by simp;omega
  first
   | have dF:(x.op == 8)=true:=by simpa using h
   | have dF:(x.op == 8)=false:=by simp;omega
 ·
  have b6:=ae (wC (u:=u) (s:=s) (t:=t) (f:=f) h);clear h;go_upto_region 45 with(fail);generalize hX:World.setCell _ _ _=Y;have n:=aJ.1.pc x.target;rw[hX] at n;have L:=da hX;have i:Ext V Y:=Fr.low (M:=λb=>b=lb) (Fr.trans (Fr.mono aJ.2.1 λ_ h=>h.elim) L) λb O=>ad;have bw:=av n.is n.o (b9.trans i);have aK:=i.size;clear hX n L i a0 al af b0 am aw d0 aQ aR e0 bl bm c0 c1 c2 c3 J flb Q;exact Fq
 ·
  have b6:=ae (wD (u:=u) (s:=s) (t:=t) (f:=f) h);clear h;go_upto_region 9 with(fail);exact z9
 ):p:=h
theorem qU(h:p:=by
 exact qR
 ):p:=h
theorem qY(h:p:=by
 exact qT
 ):p:=h
end Ce
open Ce in
theorem o5(u:ay)(s:ah)(t:Int)(f:ai)(cc:cG)(x:ax)(N:Nat)(P:Nat->Prop)(w:World)(p:UV)(q:SV)(h:je u s t f cc x N)(bo:N<=100000)(cf:x.op=7\/x.op=8)(hu:p.Ok w u)(aC:q.Is w P s)(S:∀b,P b->b<w.heap.size) :
  Calls prog 29 #[.agg (p.val u),.agg (q.val s),.int .i64 t] w (cH P w (bU u s t f x).1 (bU u s t f x).2):=by
 exact qX
end Go.Proofs.YtnigabjngpnbiaaGreat

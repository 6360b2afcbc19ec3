/- Part 39 of the proof. No condition of its own. -/
import Derived.Test.YtpkfopfkdgkfkaaGreatQ35
import Derived.Test.YtpkfopfkdgkfkaaGreatQ37
import Derived.Test.YtpkfopfkdgkfkaaGreatQ38
namespace Go.Proofs.YtpkfopfkdgkfkaaGreat
open Go.RowKit Go.Proofs.Tryz
set_option maxRecDepth 1000000
set_option maxHeartbeats 25600000
set_option linter.unusedVariables false
variable{p:Prop}{u:aA}
theorem JV{w:World}{P:Nat->Prop}{GA MA PA:Mt}{gn gc mn mc pn pc:Nat}{m:Int}(h:(tW u).rep w P [.slice GA gn gc,.slice MA mn mc,.slice PA pn pc,m])(bg:∀b,P b->b<w.heap.size):(⟨GA,gn,gc,MA,mn,mc,PA,pn,pc⟩:UV).Ok w u:=by
 obtain⟨_,_,_,_,_,_,_,_,_,he,ac,ap,aV,hu⟩:=l4 (D.aK (de:=aq w) bg _ _ h);injection he with e1 he;injection he with e2 he;injection he with e3 he;injection e1 with i y a3;injection e2 with em dH en;injection e3 with c1 c2 c3;subst i y a3 em dH en c1 c2 c3;exact⟨hu,ac,ap,aV⟩
theorem JU(s:ByteArray)(p:bQ)(w:World)(a7:Nat)(hs:s.size<=4000)(hn:(dE s.data.toList).1.length<=4001)(aM:0<(dE s.data.toList).1.length)(he:(dE s.data.toList).2.2=0)(hp:ku (dE s.data.toList).1 a7 0=some (p.af,p.funcs))(aR:p.globals=[])(hw:oJ p) :
  Calls prog 25 #[s] w λe ab=>∃q:UV,e=.returned (.agg (q.val (gB p)))/\q.Ok ab (gB p)/\Ext w ab:=by
 have H:=dm hn aM he hp aR hw;clear hn aM he hp aR hw;go_enter func25,ntmps25;go_upto_region 1 with(fail);generalize ba:World.alloc _ _=W;have aw:=aU ba;have cv:=aI ba;have ah:=ag aw cv;have cN:=cv.lt;clear ba aw cv;have kc:=run_bytes_of_string (P:=prog) W 9 87 5 s Tryz.underlying9 Tryz.underlying87 Tryz.underlying5;have bb:=grownCap_ge W s.size 0 5;generalize M:grownCap W s.size 0 5=cap at *;clear M;go_wp2_with(fail);generalize hV:World.alloc _ _=V;have hT:fF V W 0 cap s:=by
  rw[<-hV];exact yr W s cap bb ad _ _
 have L:=aU hV;have cc:=ag hT L;clear hV L kc hT;refine(y7 s W 0 cap V.drew p.af p.funcs a7 (cc.1.on Mo.drew) hs H.1 H.2.1 H.2.2.1 H.2.2.2.1 H.2.2.2.2.2.wP (ay H.2.2.2.2.2.E0)).mono ?_;rintro e aS ⟨MA,mn,mc,FA,fn,fc,z,rfl,u,aC,aJ,aO⟩;have k:Ext W aS:=cc.2.drew.trans aO;have H1:=ag u k;have cq:=k.size;clear u aO k aC aJ;go_upto_region 2 with(fail);generalize hX:World.alloc _ _=X;have bu:=aU hX;have bp:=aI hX;have u:hL X (aq X) p none 0 MA mn FA fn:=by
  have aj:∀b,fresh V.drew aS b->X.heap[b]?=aS.heap[b]?:=λb O=>bu.block b O.2 λh=>h;have hm:∀b,fresh V.drew aS b->aq X b:=λb O=>LL O.2 bu.size;refine⟨?_,(H1.1.m.ai aj).mono hm,(H1.1.f.ai aj).mono hm⟩;rw[H.2.2.2.2.1];exact Sl.bS _
 have aN:=ag u (H1.2.trans bu);obtain⟨ci,bO,b5⟩:=bp.two;clear hX bu bp u;go_wp2_with(fail);refine(ES p H.2.2.2.2.2 none 0 0 MA mn mc FA fn fc X aN.1).mono ?_;rintro e aT ⟨g,bL,bX,j,dl,cj,i,m,o,rfl,aX,aW⟩;have bc:=ag aX (aN.2.trans aW);have bS:=aW.size;clear aX aW ci bO b5;go_upto_region 3 with(fail);generalize co:World.alloc _ _=Y;have bG:=aU co;have bH:=aI co;have cD:=bc.2.trans bG;have bC:=az bG (ah.2.aj cD) (ah.1.trans cD);obtain⟨cK,aG,aK⟩:=bH.two;obtain⟨bl,aD,aP⟩:=bC.2.1.two;clear co bG bH cD;go_wp2_with(fail);generalize hX:World.setCell _ _ _=Z;obtain⟨bs,a9,bf⟩:=bA (w:=w) [.slice g bL bX,.slice j dl cj,.slice i m o,.int .i64 (gB p).main] (by rfl) bC.2.1 bC.2.2 (LK _) hX;have bK:(⟨g,bL,bX,j,dl,cj,i,m,o⟩:UV).Ok Z (gB p):=by
  refine JV (P:=fresh X aT) (D.aS (λb O=>(bf.block b (lV bC.1.size O.2) (lV aN.2.size O.1)).trans (bC.1.block b O.2 λh=>h)) _ _ bc.1) λb O=>by have:=bf.size;have:=bC.1.size;have:=O.2;omega
 have bk:=ag bK a9;clear hX a9 bf bl aD aP cK aG aK bK;obtain⟨bl,aD,aP⟩:=bs.two;refine Mn (v:=.agg #[.slice g bL bX,.slice j dl cj,.slice i m o,.int .i64 (gB p).main]) (by simp[results,Tryz.results25,go_sem,bl]) rfl ?_;exact⟨⟨g,bL,bX,j,dl,cj,i,m,o⟩,rfl,bk.1,bk.2⟩
theorem pJ(w:World)(p:UV)(q:SV)(hu:p.Ok w q4)(hs:q.Ok w (dT q4)):Calls prog 26 #[.agg (p.val q4),.agg (q.val (dT q4)),(0:Int)] w (cX mP w nn true):=by
 have:=HP q4 (dT q4) 0 0 w p q jm (oX jm.ok) ad hu hs;rw[Ir] at this;exact this
theorem D5(w:World)(p:UV)(q:SV)(hu:p.Ok w q4)(hs:q.Ok w nn):Calls prog 26 #[.agg (p.val q4),.agg (q.val nn),(0:Int)] w (cX mP w nn false):=by
 have:=HP q4 nn 0 1 w p q jm vX ad hu hs;rw[kf D7,D7] at this;exact this
namespace Ds
theorem fy(h:p:=by
 refine tf ?_;refine ch ?_;generalize cG:World.setCell _ _ _=Z;obtain⟨bs,a9,bf⟩:=bA (w:=X) [.slice aJ ak T,.slice bt s j,.slice bU bQ aR,.int .i64 nn.fault] (by rfl) ao bd gz cG;have dK:(⟨aJ,ak,T,bt,s,j,bU,bQ,aR⟩:SV).Ok Z nn:=(N.ai λb O=>bf.block b O.2.1 O.2.2).ok λb O=>by have:=bf.size;have:=O.2.1;omega
 have bk:=az dK a9 bs;obtain⟨ci,bO,b5⟩:=(aN.2.2.aj a9).two;obtain⟨ax,g,o⟩:=bs.two;clear cG bs a9 bf dK ao bd gz N cK aG aK;go_wp2_with(fail);refine(D5 Z ⟨GA,gn,gc,MA,mn,mc,PA,pn,pc⟩ ⟨aJ,ak,T,bt,s,j,bU,bQ,aR⟩ (aN.1.on bk.2.1) bk.1).mono ?_;rintro e c6 ⟨⟨H,M,J,I,y,x,b4,hW,v⟩,rfl,al,bP⟩;have dB:=ag (al.ok λb O=>(O.resolve_left λh=>h).2) bP;clear al bP ci bO b5 ax g o;dsimp only[SV.val];go_upto_region 4 with(fail);generalize co:World.alloc _ _=Y;have bG:=aU co;have bH:=aI co;have l:=dB.2.trans bG;have cA:s=1:=by have:=bk.1.at_.t.1;simp only[LO,D6] at this;exact this.symm
 have bC:=cL (bk.1.on l) (dB.1.on bG) l (aN.2.1.trans (bk.2.1.trans l)) (aN.1.on (bk.2.1.trans l));obtain⟨ax,g,o⟩:=(bk.2.2.aj l).two;obtain⟨cK,aG,aK⟩:=bH.two;have b1:=vX.small jm.ok ad;subst cA;have aX:=ae b1;clear co bG bH l b1;go_wp2_with(fail);refine(JH nn nn ⟨aJ,ak,T,bt,1,j,bU,bQ,aR⟩ ⟨H,M,J,I,y,x,b4,hW,v⟩ Y bC.1 bC.2.1 aX.o).mono ?_;rintro e cV ⟨bb,rfl,aB,be⟩;obtain rfl:bb=true:=aB.2 rfl;have dm:=ae be;clear aB cK aG aK ax g o;obtain⟨ci,bO,b5⟩:=(aN.2.2.aj (bk.2.1.trans (bC.2.2.1.trans be))).two;obtain⟨ax,g,o⟩:=(bk.2.2.aj (bC.2.2.1.trans be)).two;clear be;go_wp2_with(fail);refine(wM q4 nn ⟨GA,gn,gc,MA,mn,mc,PA,pn,pc⟩ ⟨aJ,ak,T,bt,1,j,bU,bQ,aR⟩ cV jm.ok.wK (bC.2.2.2.2.on dm.o) (bC.1.on dm.o) (by decide) (by decide) (by have:=bC.1.at_.h.1;simp only[LO] at this;have ap:nn.threads.length=1:=rfl;show bQ<=9223372036854775807;omega) (by decide)).mono ?_;rintro e gT ⟨bb,rfl,aB,br⟩;obtain rfl:bb=true:=aB.2 (sb jm.ok vX);have q:=ae (dm.trans br);have m:=dm.trans br;obtain⟨S,to,aA,u,cF,n,t0,t1⟩:=((bC.1.on m).at_.t.holds).hold (k:=0) (by show 0<1;omega);rw[D6] at n;injection n with n;subst n;simp only at u;subst u;simp only[Nat.zero_mul,LW] at t0 t1;have heq:=Gi 1 1 1 1;clear aB ci bO b5 ax g o;obtain⟨ax,g,o⟩:=(bk.2.2.aj (bC.2.2.1.trans m)).two;clear br m;go_wp2_with(fail);go_ret;exact⟨rfl,bC.2.2.2.1.trans q.o⟩
 ):p:=h
theorem BL(h:p:=by
 have hd:X.drew.heap.size=X:=rfl;have F:Ext X Z/\au Z b7 26 #[(),(),(),(0:Int)]/\X<=b7.heap.size/\∃cJ:SV,(Value.agg (z.val nn))=.agg (cJ.val nn)/\cJ.Is Z (λb=>X.heap.size<=b/\b<Z.heap.size/\b≠b7.heap.size) nn:=⟨((Fr.aG aW).trans a7).trans e2,aQ,ad,z,rfl,(r.ai λb O=>e2.block b (O.resolve_left λh=>h).2 λh=>h).mono λb O=>by have:=O.resolve_left λh=>h;omega⟩
 clear cG e2 aQ r a7 L aW s2 dN eF hd;revert F;generalize b7.heap.size=aC;exact zY
 ):p:=h
end Ds
open Ds in
theorem It(w:World):Calls prog 10 #[] w λe ab=>e=.returned true/\Ext w ab:=by
 go_enter func10,ntmps10;go_wp2_with(fail);refine(show Calls prog 25 #[aw] w _ from JU aw FL w 10 (by decide) vY.1 vY.2.1 vY.2.2 F0 rfl HH).mono ?_;rintro e aS ⟨⟨GA,gn,gc,MA,mn,mc,PA,pn,pc⟩,rfl,hu,aO⟩;have H1:=ag hu aO;clear hu aO;dsimp only[UV.val];go_upto_region 2 with(fail);generalize hX:World.alloc _ _=X;have bu:=aU hX;have bp:=aI hX;have cr:=bp.lt;have aN:=az (H1.1.on bu) (H1.2.trans bu) bp;obtain⟨ci,bO,b5⟩:=bp.two;clear hX bu bp;refine r0 (λ_=>False) [8] (.held 0 (.held 1 (.pick [2,7] (λi=>bif i == 2 then .pick [3,7] (λi=>bif i == 3 then .free 4 (.free 5 (.free 6 (.pick [7] (λ_=>.pick [8] (λ_=>.free 9 (.stop)))))) else .pick [3] (λ_=>.free 4 (.free 5 (.free 6 (.pick [8] (λ_=>.free 9 (.stop))))))) else .pick [2] (λ_=>.pick [3] (λ_=>.free 4 (.free 5 (.free 6 (.pick [8] (λ_=>.free 9 (.stop))))))))))) ?_
 iterate 2 refine th ?_
 refine g9 (P:=?oM) (ops:=?IH) (Q:=?FN) (R:=?IJ) (tails:=?IW) (rest:=.pick [8] (λ_=>.free 9 (.stop))) (aa:=?Ih)
  (C:=λ(aC:Nat) (G:Value) (Y:Value) cP=>Ext X cP/\au cP aC 26 #[(),(),(),(0:Int)]/\X<=aC/\∃z:SV,Y=.agg (z.val nn)/\z.Is cP (λb=>X.heap.size<=b/\b<cP.heap.size/\b≠aC) nn) (λkey=>?wI) ?wz
 case wI=>
  refine a2 ?_ ?_
  ·
   refine aE rfl (λK hK=>?_) rfl;go_simp;refine(JF q4 X.drew ⟨GA,gn,gc,MA,mn,mc,PA,pn,pc⟩ jm (aN.1.on (Fr.refl _ X).drew)).mono ?_;rintro e aT ⟨b8,rfl,f,aW⟩;have L:=f.ok λb O=>(O.resolve_left λh=>h).2;clear f;refine dq hK (aW) ?_;clear hK K;refine a2 ?_ ?_
   ·
    refine aE rfl (λK hK=>?_) rfl;go_simp;refine(pJ aT ⟨GA,gn,gc,MA,mn,mc,PA,pn,pc⟩ b8 (aN.1.on (Fr.aG aW)) L).mono ?_;exact BJ
   ·
    refine eu ?_;generalize cG:World.alloc _ _=Z;have e2:=aU cG;have aQ:=aI cG;have ep:=L.on e2;refine av ?_;refine aE rfl (λK hK=>?_) rfl;go_simp;refine(pJ Z ⟨GA,gn,gc,MA,mn,mc,PA,pn,pc⟩ b8 (aN.1.on ((Fr.aG aW).trans e2)) ep).mono ?_;rintro e cS ⟨z,rfl,r,a7⟩;refine dq hK (a7) ?_;clear hK K
    iterate 3 refine tf ?_
    have s2:=aW.size;have dN:=a7.size;have eF:=aQ.lt;have hd:X.drew.heap.size=X:=rfl;have F:Ext X cS/\au cS aT 26 #[(),(),(),(0:Int)]/\X<=aT.heap.size/\∃cJ:SV,(Value.agg (z.val nn))=.agg (cJ.val nn)/\cJ.Is cS (λb=>X.heap.size<=b/\b<cS.heap.size/\b≠aT.heap.size) nn:=⟨((Fr.aG aW).trans e2).trans a7,aQ.aj a7,ad,z,rfl,r.mono λb O=>by have:=O.resolve_left λh=>h;omega⟩
    clear cG e2 aQ r a7 L ep aW s2 dN eF hd;revert F;generalize aT.heap.size=aC;exact zY
  ·
   refine eu ?_;generalize cG:World.drew (World.alloc _ _)=Z;have e2:=gQ cG;have aQ:=kE cG;refine av ?_;refine aE rfl (λK hK=>?_) rfl;go_simp;refine(JF q4 Z ⟨GA,gn,gc,MA,mn,mc,PA,pn,pc⟩ jm (aN.1.on e2)).mono ?_;rintro e aT ⟨b8,rfl,f,aW⟩;have L:=f.ok λb O=>(O.resolve_left λh=>h).2;refine dq hK (aW) ?_;clear hK K;refine av ?_;refine aE rfl (λK hK=>?_) rfl;go_simp;refine(pJ aT ⟨GA,gn,gc,MA,mn,mc,PA,pn,pc⟩ b8 (aN.1.on (e2.trans aW)) L).mono ?_;rintro e b7 ⟨z,rfl,r,a7⟩;refine dq hK (a7) ?_;clear hK K
   iterate 3 refine tf ?_
   have s2:=aW.size;have dN:=a7.size;have eF:=aQ.lt;have F:Ext X b7/\au b7 X 26 #[(),(),(),(0:Int)]/\X<=X.heap.size/\∃cJ:SV,(Value.agg (z.val nn))=.agg (cJ.val nn)/\cJ.Is b7 (λb=>X.heap.size<=b/\b<b7.heap.size/\b≠X.heap.size) nn:=⟨(e2.trans aW).trans a7,(aQ.aj aW).aj a7,LK _,z,rfl,r.mono λb O=>by have:=O.resolve_left λh=>h;omega⟩
   clear cG e2 aQ r a7 L f aW s2 dN eF;revert F key;generalize (Value.agg (z.val nn))=Y;generalize (Value.agg (b8.val (dT q4)))=G;intro key F;exact key X G Y _ F
 case wz=>
  rintro aC G Y cP ⟨bd,ao,gz,⟨aJ,ak,T,bt,s,j,bU,bQ,aR⟩,rfl,N⟩;dsimp only[SV.val];obtain⟨cK,aG,aK⟩:=ao.two;clear ci bO b5;exact fQ
theorem Fa(A:Mt)(n c:Nat)(l:List Int)(w:World)(h:cw (EF cO) 1 w w.heap.size A n l)(hc:n<=c):Calls prog 11 #[.slice A n c] w (kp w):=
 Ld A n c l w h hc λK hK=>Kr w (.slice A n c) (λb2 a=>Ks w (.slice A n c) _ (λ_ _ d _ _ h=>by cases d<;>exact h) (λbV be ac ap=>Kt w (.slice A n c) bV be ac ap) b2 a) K hK
def Jk(w:World)(e:Ending)(ab:World):Prop:=∃(u:aA) (bq em dH en b4 fC:Mt) (hs c5 dv dt dA ek d0 d1 d2 d3 d4 d5:Nat) (GA:Mt) (gn gc:Nat) (MA:Mt) (mn mc:Nat) (PA:Mt) (pn pc:Nat),e=.returned (.tuple #[.agg #[.slice bq hs d0,.slice em c5 d1,.slice dH dv d2],.agg #[.slice GA gn gc,.slice MA mn mc,.slice PA pn pc,.int .i64 u.main],.agg #[.slice en dt d3,.slice b4 dA d4,.slice fC ek d5]])/\tD u/\gn<=gc/\mn<=mc/\pn<=pc/\(tW u).rep ab (fresh w ab) [.slice GA gn gc,.slice MA mn mc,.slice PA pn pc,.int .i64 u.main]/\Ext w ab
namespace Dz
theorem dC(h:p:=by
 go_wp2_with(fail);generalize ab:World.setCell _ _ _=hR;obtain⟨ai,bd,z⟩:=ei (M:=λ_=>False) (w:=w) [.slice et n0 c0,.slice cR n1 c1,.slice A2 n2 c2] (by rfl) f aa.1 ad ab;have bm:=aa.2.2.1.on z ad;have a5:=aa.2.2.2.on z ad;have bf:Fr (λb=>b<w.heap.size+3) Z hR:=aa.2.1.trans (z.mono λb O=>ad);have bk:=ag bd bf;clear ab bd z f bf aa bl aD aP;obtain⟨bl,aD,aP⟩:=bm.two;obtain⟨F,am,an⟩:=a5.two;obtain⟨t0,ao,ar⟩:=ai.two;refine Mn (v:=.tuple #[.agg #[.slice GA gn gc,.slice MA mn mc,.slice FA fn fc],.agg #[.slice g bL bX,.slice j dl cj,.slice i m o,.int .i64 (gB p).main],.agg #[.slice et n0 c0,.slice cR n1 c1,.slice A2 n2 c2]]) (by simp[results,Tryz.results4,go_sem,bl,F,t0]) rfl ?_;refine⟨gB p,?_⟩
 iterate 18 apply Exists.intro
 refine⟨g,bL,bX,j,dl,cj,i,m,o,rfl,⟨aY.o,x8 p⟩,?_,?_,?_,?_,bk.1.drew⟩
 iterate 3
  .obtain⟨_,_,_,_,_,_,_,_,_,he,ac,ap,aV,_⟩:=l4 P.1;injection he with e1 he;injection he with e2 he;injection he with e3 he;injection e1 with _ ea eb;injection e2 with _ ec ed;injection e3 with _ ee I;omega
 have U:=bk.2.size;have bi:(tW (gB p)).rep hR.drew (fresh X aT) [.slice g bL bX,.slice j dl cj,.slice i m o,.int .i64 (gB p).main]:=D.aS (λb O=>bk.2.drew.block b (ay O.2) (ay O.1)) _ _ P.1;exact D.aK (λb O=>⟨by have:=O.1;omega,by have:=O.2;show b<hR.heap.size;omega⟩) _ _ bi
 ):p:=h
end Dz
open Dz in
theorem FE(A:Mt)(n c:Nat)(l:List Int)(w:World)(h:cw (EF cO) 1 w w.heap.size A n l)(hc:n<=c):Calls prog 4 #[.slice A n c] w (Jk w):=by
 have H:=ae h;clear h;go_enter func4,ntmps4;go_upto_region 1 with(fail);generalize ba:World.alloc _ _=W;have aw:=lD ba;have bM:=jx ba;have bI:=h6 ba;have bZ:=H7 ba;have cN:W=w.heap.size+3:=by rw[<-ba];simp
 have y:=H.cZ (Fr.ext aw) aw.size;have ah:=bF aw bM bI bZ;have b6:=ae y;clear ba aw bM bI bZ y H;go_wp2_with(fail);refine(Fa A n c l W b6.o hc).mono ?_;rintro e aS ⟨p,GA,gn,gc,MA,mn,mc,FA,fn,fc,rfl,a8,S,aC,aJ,aR,hm,J,aO⟩;have H1:=cL a8 aR hm J aO;have cq:=aO.size;clear a8 aR hm J aO b6;go_upto_region 2 with(fail);generalize hX:World.alloc _ _=X;have ck:=aI hX;have bP:=aU hX;have fg:=bP.size;have ak:=ck.lt;obtain⟨d0,aK,aM⟩:=ck.two;have u:hL X (aq X) p GA gn MA mn FA fn:=⟨(Sl.ai H1.2.1 λb O=>bP.block b O.2 (λh=>h)).mono λb O=>LL O.2 fg,(Sl.ai H1.2.2.1 λb O=>bP.block b O.2 (λh=>h)).mono λb O=>LL O.2 fg,(Sl.ai H1.2.2.2.1 λb O=>bP.block b O.2 (λh=>h)).mono λb O=>LL O.2 fg⟩
 have dB:=az u ck (H1.2.2.2.2.trans bP);clear hX ck bP u;go_wp2_with(fail);refine(ES p H1.1 GA gn gc MA mn mc FA fn fc X dB.1).mono ?_;rintro e aT ⟨g,bL,bX,j,dl,cj,i,m,o,rfl,aX,aW⟩;have bS:=aW.size;have R:=dB.2.1.aj aW;have bc:=az aX R (dB.2.2.trans aW);clear aX aW R d0 aK aM;go_upto_region 3 with(fail);generalize co:World.alloc _ _=Y;have cH:=aI co;have be:=aU co;have dj:=be.size;have al:=cH.lt;obtain⟨d0,aK,aM⟩:=cH.two;have aX:(tW (gB p)).rep Y (fresh X aT) [.slice g bL bX,.slice j dl cj,.slice i m o,.int .i64 (gB p).main]:=D.aS (λb O=>be.block b O.2 (λh=>h)) _ _ bc.1;have af:hP Y (aq Y) (gB p) g bL j dl i m:=by
  obtain⟨_,_,_,_,_,_,_,_,_,he,_,_,_,hu⟩:=l4 (D.aK (de:=aq Y) (λb O=>LL O.2 dj) _ _ aX);injection he with ac he;injection he with ap he;injection he with aV he;injection ac with aZ O hc;injection ap with G bj cb;injection aV with L aE a9;subst aZ O G bj L aE;exact hu
 have dm:=cL aX af cH (bc.2.1.aj be) (bc.2.2.trans be);have aY:=ae (x7 H1.1);clear co cH be aX af bc;go_wp2_with(fail);refine(yF (gB p) aY.o g bL bX j dl cj i m o Y dm.2.1).mono ?_;rintro e b7 ⟨et,n0,c0,cR,n1,c1,A2,n2,c2,k,rfl,a7⟩;have cQ:=a7.size;have bQ:=bF (D.aS (λb O=>a7.block b (LL O.2 dj) (λh=>h)) _ _ dm.1) (dm.2.2.1.aj a7) (dm.2.2.2.1.aj a7) (dm.2.2.2.2.trans a7);clear a7 d0 aK aM dm;go_upto_region 4 with(fail);generalize cG:World.alloc _ _=Z;have br:=aI cG;have s:=aU cG;have f1:=s.size;have f1:=s.size;have aX:=D.aS (λb O=>s.block b (LL O.2 (L6 dj cQ)) (λh=>h)) _ _ bQ.1;have cH:=bQ.2.1.aj s;have ck:=bQ.2.2.1.aj s;have N:Ext W Z:=bQ.2.2.2.trans s;have Q:=ah.2.1.aj N;have cE:=ah.2.2.1.aj N;have f:=ah.2.2.2.aj N;have P:=ag aX (ah.1.trans N);have b9:=az ck cH br;have a3:=ag cE f;obtain⟨bl,aD,aP⟩:=Q.two;have aj:=br.lt;clear cG s aX bQ N cE f ck cH br;refine eJ (λb=>b<w.heap.size+3) [(0,0),(1,0),(2,0),(3,1),(4,1),(5,2)] ?_;refine bJ (v:=?_) rfl (by rfl) (λV hV=>?_) ?_;rotate_left
 .obtain⟨d0,aK,aM⟩:=(b9.1.on (Fr.aG hV) ad).two
  (go_simp<;>with_reducible rfl)
 try simp only[PU]
 refine bJ (v:=?_) rfl (by rfl) (λV hV=>?_) ?_;rotate_left
 .obtain⟨d0,aK,aM⟩:=(b9.2.1.on (Fr.aG hV) ad).two
  (go_simp<;>with_reducible rfl)
 try simp only[PU]
 refine bJ (v:=?_) rfl (by rfl) (λV hV=>?_) ?_;rotate_left
 .obtain⟨d0,aK,aM⟩:=(b9.2.2.on (Fr.aG hV) ad).two
  (go_simp<;>with_reducible rfl)
 try simp only[PU]
 refine aB rfl (λK hK=>?_);go_simp;refine dq hK (((Mo.setCell (.inl (by show w.heap.size<w.heap.size+3;omega)) _).setCell (.inl (by show w.heap.size<w.heap.size+3;omega)) _).setCell (.inl (by show w.heap.size<w.heap.size+3;omega)) _) ?_;clear hK K;generalize dP:World.setCell _ _ _=dD;obtain⟨bm,aW,a6⟩:=ei (M:=λ_=>False) (w:=w) [.slice GA gn gc,.slice MA mn mc,.slice FA fn fc] (by rfl) Q P.2 (LK _) dP;have cE:=a3.1.on a6 ad;have f:=a3.2.on a6 ad;have r:=bF aW (Fr.mono (M':=λb=>b<w.heap.size+3) a6 λb O=>ad) bm f;clear dP aW a6 bm f Q bl aD aP;obtain⟨bl,aD,aP⟩:=cE.two;refine aB rfl (λK hK=>?_);go_simp;refine dq hK (((Mo.setCell (.inl (by show w.heap.size+1<w.heap.size+3;omega)) _).setCell (.inl (by show w.heap.size+1<w.heap.size+3;omega)) _).setCell (.inl (by show w.heap.size+1<w.heap.size+3;omega)) _ |>.setCell (.inl (by show w.heap.size+1<w.heap.size+3;omega)) _) ?_;clear hK K;generalize T:World.setCell _ _ _=hj;obtain⟨a5,a7,a2⟩:=ei (M:=λ_=>False) (w:=w) [.slice g bL bX,.slice j dl cj,.slice i m o,.int .i64 (gB p).main] (by rfl) cE r.1 ad T;have f:=r.2.2.2.on a2 ad;have aa:=bF a7 (r.2.1.trans (a2.mono λb O=>ad)) (r.2.2.1.on a2 ad) a5;clear T a7 a2 a5 cE r bl aD aP;obtain⟨bl,aD,aP⟩:=f.two;exact eS
theorem tD.eD(h:tD u):u.procs.length<=100000/\∀q∈u.procs,q.code.length<=100000:=by
 refine⟨by have:=h.ok.E1;omega,λq bK=>?_⟩;obtain⟨s,hs,hl,_⟩:=(h.ok.procs q bK).code;rw[hs,LM];simp only[LZ,Ma];omega
theorem y3(u:aA)(s:ak)(N:Nat)(p:UV)(q:SV)(w:World)(hU:tD u)(hS:aW u N s)(hN:N<=100000)(hu:p.Ok w u)(hs:q.Ok w s) :
  Calls prog 6 #[.agg (p.val u),.agg (q.val s)] w λe ab=>e=.returned true/\Ext w ab:=by
 have b1:=hS.small hU.ok hN;have nv:q.hn=s.threads.length:=by have:=hs.at_.h.1;simpa using this.symm
 refine(wM u s p q w hU.ok.wK hu hs hU.eD.1 hU.eD.2 (ay b1.h) λt ht=>⟨by have:=(b1.f t ht).1;omega,λf J=>by have:=((b1.f t ht).2 f J);omega⟩).mono ?_;rintro e ab ⟨b,rfl,O,aw⟩;exact⟨by rw[O.2 (sb hU.ok hS)],aw⟩
end Go.Proofs.YtpkfopfkdgkfkaaGreat

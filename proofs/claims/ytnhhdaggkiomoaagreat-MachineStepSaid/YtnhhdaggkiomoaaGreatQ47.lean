/- Part 47 of the proof. No condition of its own. -/
import Derived.Test.YtnhhdaggkiomoaaGreatQ43
import Derived.Test.YtnhhdaggkiomoaaGreatQ45
namespace Go.Proofs.YtnhhdaggkiomoaaGreat
open Go.RowKit Go.Proofs.Tryz
set_option maxRecDepth 1000000
set_option maxHeartbeats 25600000
set_option linter.unusedVariables false
theorem machineStep_any(A B:Ls)(n c m d:Nat)(l aP:List Int)(t:Int)(raw:Bool)(w:World)(h:cq (EF cM) 1 w w.heap.size A n l)(hp:cq (EF cM) 1 w w.heap.size B m aP)(hc:n≤c) :
  Calls prog 3 #[.slice A n c,.slice B m d,.int .i64 t,.bool raw] w fun e ab=>e=.returned (.bool true)∧Below w.heap.size w ab:=by
 have H:=ag h hp;clear h hp;go_enter func3,ntmps3;go_wp2_with(fail);refine(uO A n c l w H.1 hc).mono ?_;rintro e aS ⟨u,a8,am,cF,v,b4,ao,hk,da,bi,cO,cV,cW,d0,d1,d2,d3,d4,d5,GA,gn,gc,MA,mn,mc,PA,pn,pc,rfl,hU,_,_,_,bU,aN⟩;have r:(⟨GA,gn,gc,MA,mn,mc,PA,pn,pc⟩:UV).Ok aS u:=HL bU fun b O=>O.2;have H1:=aB hU r aN;clear hU r aN bU;go_upto_region 2 with(fail);generalize hX:World.alloc _ _=X;have br:=kq hX;have bo:=g5 hX;have bb:=H1.2.2.trans br;have aQ:=bH (H1.2.1.on br) bb bo (H.2.c4 bb.ext bb.size);obtain⟨bs,aX,a4⟩:=bo.two;clear hX br bo bb;go_wp2_with(fail);refine(nY u ⟨GA,gn,gc,MA,mn,mc,PA,pn,pc⟩ B m d aP X H1.1 aQ.1 aQ.2.2.2).mono ?_;rintro e aT ⟨⟨bS,bL,bD,TA,tn,tc,HA,hn,b9⟩,rfl,bK,a3⟩;have bZ:=xT u H1.1 aP;generalize h6 u (dA u) (cf aP 60)=S at *;have a1:=bZ.small H1.1.ok ad;have ot:hn=S.threads.length:=by have:=bK.at_.h.1;simpa using this.symm
 have F:1≤hn:=by have:=bZ.x0;omega
 have G:hn≤1000000:=by have:=a1.h;omega
 clear ot;have bG:=bH bK a3 bZ a1;clear bK a3 bs aX a4 bZ a1;dsimp only[SV.val];go_upto_region 3 with(fail);generalize cr:World.alloc _ _=Y;have bE:=aU cr;have bI:=aG cr;have c0:=bG.2.1.trans bE;have bC:=aB (aQ.1.on c0) (bG.1.on bE) (aQ.2.1.trans c0);have b2:=ag (aQ.2.2.1.ai c0) bI;obtain⟨bs,aX,a4⟩:=b2.1.two;obtain⟨cE,N,aF⟩:=b2.2.two;clear cr bE bI c0;have f:∃t2:Int,(bif raw then t else within t hn)=t2:=⟨_,rfl⟩
 obtain⟨t2,ca⟩:=f;have bg:∃(b:Bool) (T:aj),bB u S t2=(T,b):=⟨_,_,rfl⟩
 obtain⟨b,T,k⟩:=bg;have co:∀V,Ext Y V→Calls prog 13 #[.agg ((⟨GA,gn,gc,MA,mn,mc,PA,pn,pc⟩:UV).val u),.agg ((⟨bS,bL,bD,TA,tn,tc,HA,hn,b9⟩:SV).val S),.int .i64 t2] V (cG mf V T b):=by
  intro V hV;have:=tX u S t2 60 V ⟨GA,gn,gc,MA,mn,mc,PA,pn,pc⟩ ⟨bS,bL,bD,TA,tn,tc,HA,hn,b9⟩ H1.1 bG.2.2.1 ad (bC.1.on hV) (bC.2.1.on hV)
  rwa [k] at this
 have dv:∀V,Ext Y V→Calls prog 14 #[.agg ((⟨GA,gn,gc,MA,mn,mc,PA,pn,pc⟩:UV).val u),.agg ((⟨bS,bL,bD,TA,tn,tc,HA,hn,b9⟩:SV).val S),.int .i64 t2] V (cG (au V) V T b):=by
  intro V hV;have bK:=bC.2.1.on hV;have:=Eg u S t2 60 (au V) V ⟨GA,gn,gc,MA,mn,mc,PA,pn,pc⟩ ⟨bS,bL,bD,TA,tn,tc,HA,hn,b9⟩ H1.1 bG.2.2.1 ad (bC.1.on hV) ⟨bK.at_,bK.gc,bK.tc,bK.hc⟩ (fun b O=>O)
  rwa [k] at this
 have hT:Small T:=by
  have:=(mT (t:=t2) H1.1.ok bG.2.2.1).small H1.1.ok ad
  rwa [k] at this
 have bm:=aB co dv hT;have q:=ae ca;clear co dv hT k ca;cases raw
 case' false=>
  go_wp2_with(fail);refine(qF ⟨bS,bL,bD,TA,tn,tc,HA,hn,b9⟩ S t Y bC.2.1 F G).mono ?_;rintro e b6 ⟨rfl,a7⟩;have bt:within t hn=t2:=q.o;simp only;rw[bt];have bT:=ae a7;clear a7 bt bs aX a4 cE N aF;obtain⟨bs,aX,a4⟩:=(b2.1.ai bT.o).two;obtain⟨cE,N,aF⟩:=(b2.2.ai bT.o).two;go_upto_region 5 with(fail)
 case' true=>
  have bt:t=t2:=q.o;subst bt;have bT:=ae (Fr.refl (fun _=>False) Y);go_upto_region 5 with(fail)
 all_goals
  go_wp2_with(fail);refine(bm.1 _ bT.o).mono ?_;rintro e cN ⟨⟨an,aE,ax,bf,s,j,bR,al,bc⟩,rfl,I,cw⟩;have i:=I.ok fun b O=>(O.resolve_left fun h=>h).2;have b8:=ag i (bT.trans cw);clear I i cw bs aX a4 cE N aF;dsimp only[SV.val];go_upto_region 6 with(fail);generalize bu:World.alloc _ _=Z;have a9:=aU bu;have bh:=aG bu;have bd:=aB (b8.1.on a9) (b8.2.trans a9) bh;clear bu a9 bh;obtain⟨bs,aX,a4⟩:=(b2.1.ai bd.2.1).two;obtain⟨cE,N,aF⟩:=(b2.2.ai bd.2.1).two;go_wp2_with(fail);refine(bm.2.1 Z bd.2.1).mono ?_;rintro e c6 ⟨⟨ap,aI,aH,aA,ai,M,cx,hf,x⟩,rfl,ac,bX⟩;have o:=ac.ok fun b O=>by
   have cm:=bX.size;rcases O with O|O
   ·have:b<Z.heap.size:=O;omega
   ·exact O.2
  have z:=ag o bX;clear ac o bX bs aX a4 cE N aF;dsimp only[SV.val];go_upto_region 7 with(fail);generalize hV:World.alloc _ _=V;have bj:=aU hV;have b5:=aG hV;have cc:=aB (z.1.on bj) (z.2.trans bj) b5;clear hV bj b5;obtain⟨bs,aX,a4⟩:=(bd.2.2.ai cc.2.1).two;obtain⟨cE,N,aF⟩:=cc.2.2.two;cases b<;>go_wp2_with(fail)
  all_goals
   refine(qv T ⟨an,aE,ax,bf,s,j,bR,al,bc⟩ ⟨ap,aI,aH,aA,ai,M,cx,hf,x⟩ V (bd.1.on cc.2.1) cc.1 bm.2.2).mono ?_;rintro e cQ ⟨rfl,g⟩;have af:=ae g;clear g bs aX a4 cE N aF;go_wp2_with(fail);refine(sD cQ).mono ?_;rintro e fn ⟨rfl,aD⟩;go_wp2_with(fail);go_ret;exact⟨rfl,Fr.ext ((((bC.2.2.trans bd.2.1).trans cc.2.1).trans af.o).trans aD)⟩
end Go.Proofs.YtnhhdaggkiomoaaGreat

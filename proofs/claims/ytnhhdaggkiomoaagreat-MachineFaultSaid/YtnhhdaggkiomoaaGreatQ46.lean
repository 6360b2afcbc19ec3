/- Part 46 of the proof. No condition of its own. -/
import Derived.Test.YtnhhdaggkiomoaaGreatQ43
import Derived.Test.YtnhhdaggkiomoaaGreatQ45
namespace Go.Proofs.YtnhhdaggkiomoaaGreat
open Go.RowKit Go.Proofs.Tryz
set_option maxRecDepth 1000000
set_option maxHeartbeats 25600000
set_option linter.unusedVariables false
variable{t:Int}{s:aj}{u:ay}
theorem n9(h:s.fault≠0):bB u s t=(s,false):=by
 unfold bB ef;simp[h]
theorem uI(h0:s.fault=0)(h:(bB u s t).1.fault≠0):(bB u s t).2=true∧{(bB u s t).1 with fault:=0}=s:=by
 obtain⟨g,y,th,fl⟩:=s;simp only at h0;subst h0;revert h;unfold bB bW;dsimp only
 repeat' split
 all_goals
  intro h
  first
  | exact⟨rfl,rfl⟩
  | exact absurd rfl h
theorem machineFault_any(A B:Ls)(n c m d:Nat)(l aP:List Int)(t:Int)(w:World)(h:cq (EF cM) 1 w w.heap.size A n l)(hp:cq (EF cM) 1 w w.heap.size B m aP)(hc:n≤c) :
  Calls prog 6 #[.slice A n c,.slice B m d,.int .i64 t] w fun e ab=>e=.returned (.bool true)∧Below w.heap.size w ab:=by
 have H:=ag h hp;clear h hp;go_enter func6,ntmps6;go_wp2_with(fail);refine(uO A n c l w H.1 hc).mono ?_;rintro e aS ⟨u,a8,am,cF,v,b4,ao,hk,da,bi,cO,cV,cW,d0,d1,d2,d3,d4,d5,GA,gn,gc,MA,mn,mc,PA,pn,pc,rfl,hU,_,_,_,bU,aN⟩;have r:(⟨GA,gn,gc,MA,mn,mc,PA,pn,pc⟩:UV).Ok aS u:=HL bU fun b O=>O.2;have H1:=aB hU r aN;clear hU r aN bU;go_upto_region 2 with(fail);generalize hX:World.alloc _ _=X;have br:=kq hX;have bo:=g5 hX;have bb:=H1.2.2.trans br;have aQ:=bH (H1.2.1.on br) bb bo (H.2.c4 bb.ext bb.size);obtain⟨bs,aX,a4⟩:=bo.two;clear hX br bo bb;go_wp2_with(fail);refine(nY u ⟨GA,gn,gc,MA,mn,mc,PA,pn,pc⟩ B m d aP X H1.1 aQ.1 aQ.2.2.2).mono ?_;rintro e aT ⟨⟨bS,bL,bD,TA,tn,tc,HA,hn,b9⟩,rfl,bK,a3⟩;have bZ:=xT u H1.1 aP;generalize h6 u (dA u) (cf aP 60)=S at *;have a1:=bZ.small H1.1.ok ad;have ot:hn=S.threads.length:=by have:=bK.at_.h.1;simpa using this.symm
 have F:1≤hn:=by have:=bZ.x0;omega
 have G:hn≤1000000:=by have:=a1.h;omega
 clear ot;have bG:=bH bK a3 bZ a1;clear bK a3 bs aX a4 bZ a1;dsimp only[SV.val];go_upto_region 3 with(fail);generalize cr:World.alloc _ _=Y;have bE:=aU cr;have bI:=aG cr;have c0:=bG.2.1.trans bE;have bC:=aB (aQ.1.on c0) (bG.1.on bE) (aQ.2.1.trans c0);have b2:=ag (aQ.2.2.1.ai c0) bI;obtain⟨cE,N,aF⟩:=b2.2.two;clear cr bE bI c0;go_wp2_with(fail);refine(qF ⟨bS,bL,bD,TA,tn,tc,HA,hn,b9⟩ S t Y bC.2.1 F G).mono ?_;rintro e b6 ⟨rfl,a7⟩;simp only;generalize within t hn=t2;have bT:=ae a7;clear a7 cE N aF;obtain⟨bs,aX,a4⟩:=(b2.1.ai bT.o).two;obtain⟨cE,N,aF⟩:=(b2.2.ai bT.o).two;go_upto_region 4 with(fail);go_wp2_with(fail);have co:=tX u S t2 60 b6 ⟨GA,gn,gc,MA,mn,mc,PA,pn,pc⟩ ⟨bS,bL,bD,TA,tn,tc,HA,hn,b9⟩ H1.1 bG.2.2.1 ad (bC.1.on bT.o) (bC.2.1.on bT.o);have K:=mT (t:=t2) H1.1.ok bG.2.2.1;have L:(S.fault≠0→(bB u S t2).1=S∧(bB u S t2).2=false)∧(S.fault=0→(bB u S t2).1.fault≠0→(bB u S t2).2=true∧{(bB u S t2).1 with fault:=0}=S):=⟨fun h=>by rw[n9 h];exact⟨rfl,rfl⟩,uI⟩
 generalize ar:(bB u S t2).1=T at *;generalize (bB u S t2).2=b at *;refine co.mono ?_;rintro e cN ⟨⟨an,aE,ax,bf,s,j,bR,al,bc⟩,rfl,I,cw⟩;have i:=I.ok fun b O=>(O.resolve_left fun h=>h).2;have q:=K.small H1.1.ok ad;have b8:=cI i (bT.trans cw) K q L;clear I i cw bs aX a4 cE N aF co K q L ar;dsimp only[SV.val];go_upto_region 5 with(fail);generalize bu:World.alloc _ _=Z;have a9:=aU bu;have bh:=aG bu;have bd:=aB (b8.1.on a9) (b8.2.1.trans a9) bh;clear bu a9 bh;obtain⟨cE,N,aF⟩:=(b2.2.ai bd.2.1).two;obtain⟨aJ,f,o⟩:=bd.2.2.two;by_cases J:S.fault=0
 case neg=>
  have q1:(S.fault != 0)=true:=by simpa using J
  obtain⟨k,rfl⟩:=b8.2.2.2.2.1 J;have hs:=qv S ⟨an,aE,ax,bf,s,j,bR,al,bc⟩ ⟨bS,bL,bD,TA,tn,tc,HA,hn,b9⟩ Z (by rw[←k];exact bd.1) (bC.2.1.on bd.2.1) bG.2.2.2;have bY:=ae hs;rw[k] at aJ;clear hs k J;go_wp2_with(fail);refine bY.mono ?_;rintro e cQ ⟨rfl,g⟩;have af:=ae g;clear g cE N aF aJ f o;go_wp2_with(fail);refine(sD cQ).mono ?_;rintro e fn ⟨rfl,aD⟩;go_wp2_with(fail);go_ret;exact⟨rfl,Fr.ext (((bC.2.2.trans bd.2.1).trans af.o).trans aD)⟩
 have q1:(S.fault != 0)=false:=by simpa using J
 have bV:=ae J;clear J;by_cases hT:T.fault=0
 case pos=>
  have cB:(T.fault != 0)=false:=by simpa using hT
  clear hT;go_wp2_with(fail);refine(sD Z).mono ?_;rintro e fn ⟨rfl,aD⟩;go_wp2_with(fail);go_ret;exact⟨rfl,Fr.ext ((bC.2.2.trans bd.2.1).trans aD)⟩
 have cB:(T.fault != 0)=true:=by simpa using hT
 obtain⟨rfl,k⟩:=b8.2.2.2.2.2 bV.o hT;have aa:=ag k hT;clear k hT;go_upto_region 9 with(fail);generalize hV:World.alloc _ _=V;have bj:=aU hV;have b5:=aG hV;have cc:=ag bj b5;obtain⟨v0,U,au⟩:=b5.two;clear hV bj b5 cE N aF aJ f o;go_upto_region 10 with(fail);generalize ba:World.setCell _ _ _=W;have P:Ext Z W:=ba▸cc.1.setCell (.inr (KG _)) _;have aj:aq W Z.heap.size 40 #[.slice an aE ax,.slice bf s j,.slice bR al bc,.int .i64 0]:=ba▸cc.2.aM 3 _;have ah:=aB P aj (bd.2.1.trans P);clear ba P aj v0 U au;obtain⟨bs,aX,a4⟩:=(b2.1.ai ah.2.2).two;obtain⟨aJ,f,o⟩:=(bd.2.2.ai ah.1).two;go_wp2_with(fail);have co:=tX u T t2 61 W ⟨GA,gn,gc,MA,mn,mc,PA,pn,pc⟩ ⟨an,aE,ax,bf,s,j,bR,al,bc⟩ H1.1 b8.2.2.1 ad (bC.1.on ah.2.2) (bd.1.on ah.1);rw[n9 aa.2] at co;refine co.mono ?_;rintro e c6 ⟨⟨ap,aI,aH,aA,ai,M,cx,hf,x⟩,rfl,ac,bX⟩;have z:=ae bX;clear ac bX bs aX a4 aJ f o co;dsimp only[SV.val];go_upto_region 11 with(fail);generalize cA:World.alloc _ _=R;have y:Ext W R:=cA▸z.alloc _;have aW:=ag y (ah.2.2.trans y);clear cA y;obtain⟨cE,N,aF⟩:=(b2.2.ai aW.2).two;obtain⟨aJ,f,o⟩:=(ah.2.1.ai aW.1).two;have Q:(⟨an,aE,ax,bf,s,j,bR,al,bc⟩:SV).Ok R S:=by
  rw[←aa.1];have h:=bd.1.on (ah.1.trans aW.1);exact⟨⟨h.at_.g,h.at_.t,h.at_.h⟩,h.gc,h.tc,h.hc⟩
 have hs:=qv S ⟨an,aE,ax,bf,s,j,bR,al,bc⟩ ⟨bS,bL,bD,TA,tn,tc,HA,hn,b9⟩ R Q (bC.2.1.on aW.2) bG.2.2.2;simp only[SV.val,bV.o] at hs;have bY:=ae hs;have ak:=bV.o;simp only[ak] at cE;clear hs Q ak;go_wp2_with(fail);refine bY.mono ?_;rintro e cQ ⟨rfl,g⟩;have af:=ae g;clear g cE N aF aJ f o;go_wp2_with(fail);refine(sD cQ).mono ?_;rintro e fn ⟨rfl,aD⟩;go_wp2_with(fail);go_ret;exact⟨rfl,Fr.ext (((bC.2.2.trans aW.2).trans af.o).trans aD)⟩
end Go.Proofs.YtnhhdaggkiomoaaGreat

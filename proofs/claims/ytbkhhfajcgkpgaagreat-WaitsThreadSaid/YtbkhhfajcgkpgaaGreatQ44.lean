/- Part 44 of the proof. No condition of its own. -/
import Derived.Test.YtbkhhfajcgkpgaaGreatQ43
namespace Go.Proofs.YtbkhhfajcgkpgaaGreat
open Go.RowKit Go.Proofs.Tryz
set_option maxRecDepth 1000000
set_option maxHeartbeats 25600000
set_option linter.unusedVariables false
theorem waitsThread_any(A B:Kr)(n c m d:Nat)(l az:List Int)(t:Int)(raw:Bool)(w:World)(h:cC (EF b2) 1 w w.heap.size A n l)(hp:cC (EF b2) 1 w w.heap.size B m az)(hc:n≤c) :
  Calls prog 3 #[.slice A n c,.slice B m d,.int .i64 t,.bool raw] w fun e ac=>e=.returned (.bool true)∧Below w.heap.size w ac:=by
 go_enter func3,ntmps3;go_wp2_with(fail);refine(yq A B n c m d l az w h hp hc).mono ?_;rintro e aN ⟨u,s,⟨GA,gn,gc,MA,mn,mc,PA,pn,pc⟩,⟨bp,bQ,a7,TA,tn,tc,HA,hn,bJ⟩,rfl,_,g,aG⟩;have hl:=g.len;simp only at hl;have cy:=hl.2.1;have E:=hl.2.2;have H1:=ai g aG;clear g aG hl h hp;dsimp only[UV.val,SV.val];go_upto_region 2 with(fail);generalize hX:World.alloc _ _=X;have bo:Ext aN X:=hX▸(Kn.alloc _).alloc _;have bG:af X aN.heap.size 26 #[.slice GA gn gc,.slice MA mn mc,.slice PA pn pc,.int .i64 u.main]:=hX▸(Ko).alloc _;have aY:af X (aN.heap.size+1) 30 #[.slice bp bQ a7,.slice TA tn tc,.slice HA hn bJ,.int .i64 s.fault]:=hX▸af.ct _ _ _ (by simp);have aP:=bw (H1.1.on bo) (H1.2.trans bo) bG aY;obtain⟨br,ah,bj⟩:=bG.two;obtain⟨cj,j,y⟩:=aY.two;clear hX bo bG aY;obtain⟨t2,bH⟩:∃t2:Int,(bif raw then t else within t hn)=t2:=⟨_,rfl⟩
 have L:=ad bH;clear bH;cases raw
 case' false=>
  go_wp2_with(fail);refine(wg ⟨bp,bQ,a7,TA,tn,tc,HA,hn,bJ⟩ s t X aP.1.s cy (by simp only;omega)).mono ?_;rintro e bU ⟨rfl,bB⟩;have bi:within t hn=t2:=L.o;simp only;rw[bi];have ao:=ad bB;clear bB bi br ah bj cj j y;obtain⟨br,ah,bj⟩:=(aP.2.2.1.ak ao.o).two;obtain⟨cj,j,y⟩:=(aP.2.2.2.ak ao.o).two;go_upto_region 4 with(fail)
 case' true=>
  have bi:t2=t:=L.symm;subst bi;have ao:=ad (Fr.refl (fun _=>False) X);go_upto_region 4 with(fail)
 all_goals
  go_wp2_with(fail);refine(gX false u s t2 60 _ ⟨GA,gn,gc,MA,mn,mc,PA,pn,pc⟩ ⟨bp,bQ,a7,TA,tn,tc,HA,hn,bJ⟩ (aP.1.on ao.o)).mono ?_;rintro e ci ⟨rfl,a2⟩;have P:=ad (ao.trans a2);clear a2 br ah bj cj j y;obtain⟨br,ah,bj⟩:=(aP.2.2.1.ak P.o).two;obtain⟨cj,j,y⟩:=(aP.2.2.2.ak P.o).two;go_wp2_with(fail);refine(gX true u s t2 60 ci ⟨GA,gn,gc,MA,mn,mc,PA,pn,pc⟩ ⟨bp,bQ,a7,TA,tn,tc,HA,hn,bJ⟩ (aP.1.on P.o)).mono ?_;rintro e cx ⟨rfl,a4⟩;have z:=ad (P.trans a4);clear a4 br ah bj cj j y;obtain⟨br,ah,bj⟩:=(aP.2.2.1.ak z.o).two;obtain⟨cj,j,y⟩:=(aP.2.2.2.ak z.o).two;generalize dF u s t2=r;generalize (r.map Prod.fst).getD 0=r1;generalize (r.map Prod.snd).getD 0=gE;generalize r.isSome=eI;go_upto_region 6 with(fail);refine eE (fun _=>False) [(0,3),(1,3),(2,3),(3,3),(4,3),(5,3),(6,3),(7,3),(8,3),(9,3),(10,3),(11,3),(12,3),(13,3),(14,0),(15,0),(16,3),(18,0),(19,0),(20,3),(17,1),(21,2),(22,3),(23,3),(24,3),(25,2),(26,3),(27,3)] ?_
  iterate 14 refine pf ?_
  iterate 2 refine ph ?_
  refine pf ?_
  iterate 2 refine ph ?_
  refine pf ?_;refine aK rfl (fun K hK=>?_);go_simp;refine(iI false u s t2 60 cx.drew ⟨GA,gn,gc,MA,mn,mc,PA,pn,pc⟩ ⟨bp,bQ,a7,TA,tn,tc,HA,hn,bJ⟩ (aP.1.on z.drew)).mono ?_;rintro e cp ⟨rfl,f⟩;have J:=ad (z.drew.trans f);refine dW hK (f) ?_;clear hK K;clear f;refine aq rfl (fun K hK=>?_);go_simp;refine(iI true u s t2 60 cp ⟨GA,gn,gc,MA,mn,mc,PA,pn,pc⟩ ⟨bp,bQ,a7,TA,tn,tc,HA,hn,bJ⟩ (aP.1.on J.o)).mono ?_;rintro e fn ⟨rfl,cq⟩;have q:=ad (J.trans cq);clear cq;refine eD hK ?_;clear hK K;generalize xM u s t2=b
  iterate 3 refine pf ?_
  refine aq rfl (fun K hK=>?_);go_simp;refine(DX fn).mono ?_;rintro e gN ⟨rfl,cc⟩;have cA:=ad ((aP.2.1.trans q.o).trans cc);clear cc br ah bj cj j y;refine eD hK ?_;clear hK K
  iterate 2 refine pf ?_
  refine aA ?_;go_wp2_with(fail);go_ret;exact⟨rfl,Fr.ext cA.o⟩
end Go.Proofs.YtbkhhfajcgkpgaaGreat

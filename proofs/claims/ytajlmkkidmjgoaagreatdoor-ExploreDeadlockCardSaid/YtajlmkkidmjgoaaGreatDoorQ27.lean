/- Part 27 of the proof. No condition of its own. -/
import Derived.Test.YtajlmkkidmjgoaaGreatDoorQ26
namespace Go.Proofs.YtajlmkkidmjgoaaGreatDoor
open Go.RowKit Go.Proofs.Tryz
set_option maxRecDepth 1000000
set_option maxHeartbeats 25600000
set_option linter.unusedVariables false
variable{p:Prop}
def Cw(w:World)(l:List Int)(e:Ending)(ab:World):Prop:=∃A n c,e=.returned (.slice A n c)/\l.length=n/\n<=c/\Sl ab (av ab) A n (l.map D.i)/\Ext w ab
namespace At
theorem yC(h:p:=by
 by_cases al:k<n
 .have m:=ay.2.2.2.dh (Fr.ext bj.ext) bj.ext.size;exact DM
 .have Q:k=n:=ad;have bj:=a8.1;rw[a8.2.2.2 Q] at bj;obtain⟨aA,sm,I,y,av,ao,a7,hm,hd⟩:=q;have HA:=ae bj;have i:=bj.len;obtain⟨cR,f,G⟩:=bj.blk.two;clear bj Q;have r:=ay.2.1.aj HA.ext;have du:=r.lt;have S:=ay.2.1.lt;have bt:g≠w.heap.size+1:=by have:=HA.lo;omega
  have H:=ae r;obtain⟨bD,aK,a9⟩:=r.two;clear r;go_upto_region 7 with(fail);refine eB (λb=>b=w.heap.size+1) [(0,3),(1,3),(2,3),(3,0),(4,3),(5,3),(6,3),(7,0),(8,3),(9,1),(10,3)] ?_
  iterate 3 refine pf ?_
  refine m0 ?_
  iterate 3 refine pf ?_
  refine m0 ?_;refine pf ?_;refine aD rfl (λK hK=>?_);go_simp;generalize cl:World.setCell _ _ _=Z;obtain⟨bB,a6⟩:=jR 0 [.slice aA sm I,.slice y av ao,.slice a7 hm hd,.int .i64 (fL u (dO u) l).fault] H.o cl;refine dA hK (⟨a6.os,a6.tape,a6.output,a6.size,a6.block⟩) ?_;clear hK K;refine pf ?_;refine aB ?_;have a2:=ae a6.drew;clear cl a6 bD aK a9 cR f G;obtain⟨bD,aK,a9⟩:=bB.two;go_wp2_with(fail);refine IJ (v:=.tuple #[.agg #[.slice aA sm I,.slice y av ao,.slice a7 hm hd,.int .i64 (fL u (dO u) l).fault],.int .i64 (s:Int)]) (by simp[results,Tryz.results13,go_sem,bD,iw]) rfl ?_;rw[<-i];have cF:=a2.size;have bf:=HA.ext.size;refine⟨⟨aA,sm,I,y,av,ao,a7,hm,hd⟩,rfl,(HA.Gl.al λb O=>a2.block b O.2.1 ad).mono λb O=>ad,Fr.low (M:=λb=>b=w.heap.size+1) (Fr.trans ((ay.1.trans HA.ext).mono λ_ h=>h.elim) a2.o) λb O=>ad⟩
 ):p:=h
theorem yt(h:p:=by
 go_loopw [16] (λci wr=>∃(k:Nat) (q:SV) (D:IP) (s L:Nat) (F:List Nat),ci=.int .i64 k/\k<=n/\r6 W wr ⟨GA,gn,gc,MA,mn,mc,PA,pn,pc⟩ u g q D s L F (fL u (dO u) (l.take k)) (dC u (dO u) (l.take k))) (λci _=>n - (intOf ci).toNat)
 case atStart=>exact⟨0,_,_,_,_,_,rfl,ad,bH.o⟩
 case round=>
  exact yB
 ):p:=h
end At
open At in
theorem srun(u:ax)(l:List Int)(A:IP)(n c:Nat)(w:World)(p:UV)(hU:x0 u)(hu:p.Ok w u)(hl:cJ (EF cD) 1 w w.heap.size A n l)(hn:n<=90000) :
  Calls prog 13 #[.agg (p.val u),.slice A n c] w (Ez w (fL u (dO u) l) (dC u (dO u) l).length):=by
 obtain⟨GA,gn,gc,MA,mn,mc,PA,pn,pc⟩:=p;have ce:=ai hu hl;have bv:=ae hU;clear hU hu hl;dsimp only[UV.val];go_enter func13,ntmps13;go_upto_region 1 with(fail);generalize ba:World.alloc _ _=W;have aw:=hJ ba;have aS:=fA ba;have cy:=fB ba;exact ys
namespace Au
theorem yC(h:p:=by
 by_cases al:k<n
 .have m:=ay.2.2.2.dh (Fr.ext bj.ext) bj.ext.size;exact DM
 .have Q:k=n:=ad;have bj:=a8.1;rw[a8.2.2.2 Q] at bj;obtain⟨aA,sm,I,y,av,ao,a7,hm,hd⟩:=q;have HA:=ae bj;have i:=bj.len;obtain⟨cR,f,G⟩:=bj.blk.two;clear bj Q;go_wp2_with(fail);go_ret;exact⟨D,s,L,rfl,i,HA.row.cap,HA.row.sl (cB _) (by rw[Ib];exact i) λb O=>HA.row.lt b O,ay.1.trans HA.ext⟩
 ):p:=h
theorem yt(h:p:=by
 go_loopw [15] (λci wr=>∃(k:Nat) (q:SV) (D:IP) (s L:Nat) (F:List Nat),ci=.int .i64 k/\k<=n/\r6 W wr ⟨GA,gn,gc,MA,mn,mc,PA,pn,pc⟩ u g q D s L F (fL u (dO u) (l.take k)) (dC u (dO u) (l.take k))) (λci _=>n - (intOf ci).toNat)
 case atStart=>exact⟨0,_,_,_,_,_,rfl,ad,bH.o⟩
 case round=>
  exact yB
 ):p:=h
end Au
open Au in
theorem suseful(u:ax)(l:List Int)(A:IP)(n c:Nat)(w:World)(p:UV)(hU:x0 u)(hu:p.Ok w u)(hl:cJ (EF cD) 1 w w.heap.size A n l)(hn:n<=90000) :
  Calls prog 11 #[.agg (p.val u),.slice A n c] w (Cw w (dC u (dO u) l)):=by
 obtain⟨GA,gn,gc,MA,mn,mc,PA,pn,pc⟩:=p;have ce:=ai hu hl;have bv:=ae hU;clear hU hu hl;dsimp only[UV.val];go_enter func11,ntmps11;go_upto_region 1 with(fail);generalize ba:World.alloc _ _=W;have aw:=bm ba;have aS:=aU ba;have cy:True:=trivial;exact ys
end Go.Proofs.YtajlmkkidmjgoaaGreatDoor

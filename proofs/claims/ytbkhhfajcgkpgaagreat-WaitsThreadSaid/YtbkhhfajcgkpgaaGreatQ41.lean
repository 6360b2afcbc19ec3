/- Part 41 of the proof. No condition of its own. -/
import Derived.Test.YtbkhhfajcgkpgaaGreatQ22
namespace Go.Proofs.YtbkhhfajcgkpgaaGreat
open Go.RowKit Go.Proofs.Tryz
set_option maxRecDepth 1000000
set_option maxHeartbeats 25600000
set_option linter.unusedVariables false
variable{g:Nat}{F:Nat→Bool}{p:Prop}{w:World}
def bW(f:Nat→Bool):Array Value:=#[.bool (f 0),.bool (f 1),.bool (f 2),.bool (f 3),.bool (f 4),.bool (f 5),.bool (f 6),.bool (f 7),.bool (f 8),.bool (f 9),.bool (f 10),.bool (f 11),.bool (f 12),.bool (f 13),.bool (f 14),.bool (f 15),.bool (f 16),.bool (f 17),.bool (f 18),.bool (f 19),.bool (f 20),.bool (f 21),.bool (f 22),.bool (f 23),.bool (f 24),.bool (f 25),.bool (f 26),.bool (f 27),.bool (f 28),.bool (f 29),.bool (f 30),.bool (f 31)]
theorem hJ(f:Nat→Bool):(bW f).toList=(List.range 32).map fun i=>.bool (f i):=rfl
theorem oe(f:Nat→Bool){k:Nat}(h:k<32):(bW f)[k]?=some (.bool (f k)):=by
 rw[←Array.getElem?_toList,hJ,List.getElem?_map,List.getElem?_range h];rfl
theorem tg(f:Nat→Bool)(k:Nat)(b:Bool):(bW f).setIfInBounds k (.bool b)=bW fun i=>if i=k then b else f i:=by
 refine Array.ext' ?_;rw[Array.toList_setIfInBounds,hJ,hJ];refine List.ext_getElem? fun i=>?_;rw[List.getElem?_set,List.getElem?_map,List.getElem?_map];by_cases al:i<32
 ·rw[List.getElem?_range al];by_cases aj:k=i
  ·subst aj;simp[al]
  ·simp[aj,Ne.symm aj]
 ·rw[List.getElem?_eq_none (by simpa using al)];simp;omega
theorem kf{f g:Nat→Bool}:bW f=bW g↔∀i,i<32→f i=g i:=by
 constructor
 ·intro h i al;have ae:=oe f al;rw[h,oe g al] at ae;injection ae with ae;injection ae with ae;exact ae.symm
 ·intro h;refine Array.ext' ?_;rw[hJ,hJ];refine List.map_congr_left fun i al=>?_;rw[h i (List.mem_range.1 al)]
section
variable {l:List Int} {f:Nat→Bool} {k:Nat} {x:Int} {b:Bool}
theorem GH(h:l[k]?=some x):qH l (k:Int)=x:=by
 unfold qH;rw[if_neg ab,Kb,List.getD_eq_getElem?_getD,h];rfl
theorem EI(h:l[k]?=some x):jt l f k=(f k && decide (0≤x) && f x.toNat):=by
 unfold jt;rw[GH h,decide_eq_true (List.getElem?_eq_some_iff.1 h).1,Bool.true_and]
theorem tU(h:jt l f k=b):(bW fun i=>if i=k then b else decide (i<k) && jt l f i)=bW fun i=>decide (i<k+1) && jt l f i:=by
 rw[kf];intro i _;by_cases al:i=k
 ·subst al;simp[h]
 ·simp only[if_neg al];congr 1
  simp;omega
theorem tT(h:jt l f k=false):(bW fun i=>decide (i<k) && jt l f i)=bW fun i=>decide (i<k+1) && jt l f i:=by
 rw[←tU h,kf];intro i _;by_cases al:i=k
 ·subst al;simp
 ·simp[if_neg al]
theorem EJ(h:l.length=k):(bW fun i=>decide (i<k) && jt l f i)=bW (jt l f):=by
 rw[kf];intro i _;unfold jt;rw[h];by_cases al:i<k<;>simp[al]
theorem jf(h:af w g 94 (bW f))(aj:k<32):w.cell? ⟨g,k,none⟩=some (.bool (f k)):=(h.two.1 k).trans (oe f aj)
end
theorem af.setRow{w:World}{g:Nat}{t:TypeId}{cs:Array Value}(h:af w g t cs)(vs:Array Value):af (w.setRow g vs) g t vs:=by
 unfold af at h ⊢;simp[World.setRow,Array.getElem?_modify,h]
theorem Fr.setRow{M:Nat→Prop}{J w:World}{g:Nat}(h:Fr M J w)(aJ:M g∨J.heap.size≤g)(vs:Array Value):Fr M J (w.setRow g vs) where
 os:=h.os
 tape:=h.tape
 output:=h.output
 size:=by simpa[World.setRow] using h.size
 block k aj hm:=by
  have a1:g≠k:=fun e=>by
   subst e;rcases aJ with aJ|aJ
   ·exact hm aJ
   ·omega
  simp only[World.setRow,Array.getElem?_modify,if_neg a1];exact h.block k aj hm
theorem te:∀v∈(bW F).toList,v.oneCell'=true:=fun v bD=>by
 rw[hJ] at bD;obtain⟨i,_,rfl⟩:=Ke.1 bD;rfl
theorem sK{f:Nat→Bool}(h:af w g 94 (bW f))(F:Nat→Bool):(storeCells ⟨g,0,none⟩ (bW F).toList).run prog w=.ok () (w.setRow g (bW F)):=by
 rw[run_storeCells_from g 94 _ 0 _ w h (by simp[bW]) te];simp
theorem vU(w:World)(c az:Array Value)(t:TypeId):(w.alloc (.cells c t)).setRow w.heap.size az=w.alloc (.cells az t):=by
 unfold World.setRow World.alloc;congr 1
 refine Array.ext_getElem? fun i=>?_;rw[Array.getElem?_modify,Array.getElem?_push,Array.getElem?_push];by_cases h:w.heap.size=i
 ·subst h;simp
 ·rw[if_neg h];simp[Ne.symm h]
theorem vT(w:World)(z:Array Value)(bi:z.size=32)(F:Nat→Bool):(storeCells ⟨w.heap.size,0,none⟩ (bW F).toList).run prog (w.alloc (.cells z 94))=.ok () (w.alloc (.cells (bW F) 94)):=by
 rw[run_storeCells_from w.heap.size 94 _ 0 z _ (heap_alloc_new _ _) (by simp[bW,bi]) te];simp[vU]
theorem ua(w:World)(F:Nat→Bool):(storeCells ⟨w.heap.size,0,none⟩ (bW F).toList).run prog (w.alloc (.cells #[.bool false,.bool false,.bool false,.bool false,.bool false,.bool false,.bool false,.bool false,.bool false,.bool false,.bool false,.bool false,.bool false,.bool false,.bool false,.bool false,.bool false,.bool false,.bool false,.bool false,.bool false,.bool false,.bool false,.bool false,.bool false,.bool false,.bool false,.bool false,.bool false,.bool false,.bool false,.bool false] 94))=.ok () (w.alloc (.cells (bW F) 94)):=vT w _ rfl F
theorem ll(A:Kr)(n c:Nat)(l:List Int)(f:Nat→Bool)(w:World)(h:cC (EF b2) 1 w w.heap.size A n l)(hl:dp l)(hn:n≤32) :
  Calls prog 44 #[.slice A n c,.agg (bW f)] w fun e ac=>e=.returned (.agg (bW (jt l f)))∧Ext w ac:=by
 have hlen:l.length=n:=by have:=h.1;omega
 have cn:=aQ hl hlen h;clear hl hlen h;unfold bW;go_enter func44,ntmps44;go_upto_region 2 with(fail);generalize bg:World.alloc _ _=W;have aF:Ext w W:=bg▸((Kn.alloc _).alloc _).alloc _;have bP:af W w.heap.size 94 (bW f):=bg▸((Ko).alloc _).alloc _;have bG:af W (w.heap.size+1) 94 (bW fun _=>false):=bg▸(af.ct _ _ _ (by simp)).alloc _;have aY:af W (w.heap.size+2) 94 (bW fun _=>false):=bg▸af.ct _ _ _ (by simp);have cA:=aY.lt;have ax:=dA aF bP bG aY (cn.2.2.cO (Fr.ext aF) aF.size);clear bg aF bP bG aY;go_wp2_with(fail);go_loopw [10] (fun cg wr=>∃k:Nat,cg=.int .i64 k∧k≤n∧af wr (w.heap.size+2) 94 (bW fun i=>decide (i<k) && jt l f i)∧Fr (fun b=>b=w.heap.size+2) W wr) (fun cg _=>n - (intOf cg).toNat)
 case atStart=>exact⟨0,rfl,ab,by simpa using ax.2.2.2.1,Kn⟩
 case round=>
  obtain⟨k,rfl,aj,aL,hF⟩:=hrel;have hs:=hF.size;have bs:=ai aL hF;clear aL hF;by_cases aw:k<n
  ·have g:(k:Int)<(n:Int):=ab;have U:(k:Int)<32:=ab;obtain⟨b,o,x,rfl,an,hx,c0⟩:=cn.2.2.int aw;have aX:b<wr.heap.size:=by have:=ax.1.size;omega
   have bp:=cn.1 x (JT hx);rw[cn.2.1] at bp;have e0:=((Fr.cell (j:=o+k) ax.1 an (fun h=>h)).trans c0)
   have e1:=((bs.2.cell (j:=o+k) (aH ax.1.size) ab).trans e0)
   have b7:=jf (k:=k) (ax.2.1.on bs.2 ab) ab;have bN:w.heap.size<wr.heap.size:=ab;have r:=ad (EI (f:=f) hx);clear c0 e0 hx an
   cases hfk:f k with
   | false=>
    rw[hfk] at b7;have bu:=ad (tT (l:=l) (f:=f) (k:=k) (by rw[r.o,hfk];rfl));clear hfk r
    exact FG
   | true=>
    rw[hfk] at b7;by_cases a9:0≤x
    case neg=>
     have q1:decide (x≥0)=false:=by simp;omega
     have bu:=ad (tT (l:=l) (f:=f) (k:=k) (by rw[r.o,decide_eq_false a9];simp));clear hfk r a9;exact FG
    have q1:decide (x≥0)=true:=by simpa using a9
    have s:x<32:=ab;obtain⟨j,rfl⟩:=JV a9;have g2:=jf (k:=j) (ax.2.1.on bs.2 ab) ab;have o1:=jf (k:=k) bs.1 ab;have aa:=bs.1.two.2.1;have bu:=ad (tU (l:=l) (f:=f) (k:=k) (b:=f j) (by rw[r.o,hfk,decide_eq_true a9];simp));have bf:=bs.1.lt;clear hfk r a9 bp;generalize f j=t at *;go_upto_region 7 with(fail);generalize hX:World.setCell _ _ _=X;have bh:af X (w.heap.size+2) 94 (bW fun i=>decide (i<k+1) && jt l f i):=by rw[←hX,←bu.o,←tg];exact bs.1.aC k _
    have b0:Fr (fun b=>b=w.heap.size+2) W X:=hX▸bs.2.setCell (.inl rfl) _;exact FE
  ·have g:¬(k:Int)<(n:Int):=ab;have cK:=bs.1;rw[EJ (aH cn.2.1)] at cK;obtain⟨F,hF⟩:∃F,F=jt l f:=⟨_,rfl⟩
   rw[←hF] at cK;have m:=ad hF;have bG:=ax.2.2.1.on bs.2 ab;have G:Ext w wr:=Fr.low (M:=fun b=>b=w.heap.size+2) (Fr.trans (Fr.mono ax.1 fun _ h=>h.elim) bs.2) fun b O=>ab;have a2:=ai bG G;clear bG G bs hF;have a5:=sK a2.1 F;go_wp2_with(refine wpList_load_row rfl 94 _ rfl (w.heap.size+2) rfl 94 (bW F) (0,0) _ cK Tryz.underlying94 rfl (by kernel_rfl) ?_);generalize hX:World.setRow _ _ _=Z;have bC:af Z (w.heap.size+1) 94 (bW F):=hX▸a2.1.setRow _;have bl:Ext w Z:=hX▸a2.2.setRow (.inr ab) _;refine⟨rfl,.agg (bW F),?_,?_⟩
   ·exact results_cell_row rfl _ _ (w.heap.size+1) 94 (bW F) (0,0) _ rfl bC Tryz.underlying94 rfl (by kernel_rfl)
   have hF:=m.o;subst hF;exact⟨rfl,bl⟩
theorem xo(F:Nat→Bool){j:Nat}(bc:j<32)(w:World):(Instr.index 94 (.agg (bW F)) (.int .i64 (j:Int))).run prog w=.ok (.bool (F j)) w:=by
 simp[Instr.index,run_underlying Tryz.underlying94,asIntOf,go_sem,bc,oe F bc]
theorem yl(w:World)(F G:Nat→Bool):∃r:Bool,(Op.equalIn 10000 94 (.agg (bW F)) (.agg (bW G))).run prog w=.ok r w∧(r=true↔∀i,i<32→F i=G i):=by
 have aj:∀F:Nat→Bool,prog.keyLits 5 94 (Value.agg (bW F)).cells.toList=some ((List.range 32).map fun i=>Lit.bool (F i)):=fun F=>by kernel_rfl
 obtain⟨r,aU,n⟩:=run_equalIn_deep (P:=prog) 9998 2 94 (by kernel_rfl) w 5 5 (.agg (bW F)) (.agg (bW G)) _ _ (by kernel_rfl) (by kernel_rfl) (aj F) (aj G);refine⟨r,aU,n.trans ?_⟩;rw[List.map_inj_left];constructor
 ·intro h i al;have:=h i (List.mem_range.2 al);injection this
 ·intro h i al;rw[h i (List.mem_range.1 al)]
def Ji:Option Value→Bool
 | some (.bool b)=>b
 | _=>false
def DA(w:World)(g:Nat):Nat:=(List.range 32).countP fun i=>Ji (w.cell? ⟨g,i,none⟩)
theorem ur{f:Nat→Bool}(h:af w g 94 (bW f)):DA w g=(List.range 32).countP f:=by
 unfold DA;refine List.countP_congr fun i al=>?_;rw[jf h (List.mem_range.1 al)];rfl
theorem xF{f g:Nat→Bool}(hs:∀i,g i=true→f i=true){i:Nat}(al:i<32)(ae:f i=true)(aC:g i=false):(List.range 32).countP g<(List.range 32).countP f:=by
 have h:(List.range 32).countP f=(List.range 32).countP g+(List.range 32).countP fun i=>f i && !g i:=by
  generalize List.range 32=l
  induction l with
  | nil=>rfl
  | cons x l ao=>
   simp only[List.countP_cons,ao];cases aD:f x<;>cases aJ:g x<;>simp
   ·have:=hs x aJ;rw[aD] at this;cases this
   ·omega
   ·omega
 have:0<(List.range 32).countP fun i=>f i && !g i:=List.countP_pos_iff.2 ⟨i,List.mem_range.2 al,by simp[ae,aC]⟩;omega
def ir(F:Nat→Bool)(k:Nat):List Int:=((List.range k).filter F).map Int.ofNat
theorem ye{k:Nat}:(ir F k).length≤k:=by
 unfold ir;rw[JU];refine J7 (List.length_filter_le _ _) ?_;simp
theorem xk{k:Nat}(h:F k=true):ir F (k+1)=ir F k++[(k:Int)]:=by
 unfold ir;rw[List.range_succ,List.filter_append,JX];simp[h]
theorem sE{k:Nat}(h:F k=false):ir F (k+1)=ir F k:=by
 unfold ir;rw[List.range_succ,List.filter_append];simp[h]
theorem vK{l:List Int}(hn:l.length≤32)(hF:∀i,i<32→(F i=true↔(i:Int)∈nw l))(hl:dp l):ir F 32=nw l:=by
 unfold ir;have ae:∀k,k≤32→k≤l.length→((List.range k).filter F).map Int.ofNat=o9 l k:=by
  intro k
  induction k with
  | zero=>intro _ _;rfl
  | succ k ao=>
   intro R aj;have ao:=ao ab ab;have hm:=hF k ab;rw[kV hl] at hm;by_cases aV:0≤ef l (l.length+1) (k:Int)
   ·have ht:F k=true:=hm.2 ⟨ab,ab,oS hl ab (du aV ab)⟩;rw[D5 aV,←ao];exact xk ht
   ·have ht:F k=false:=by
     cases aD:F k with
     | false=>rfl
     | true=>exact absurd ((hm.1 aD).2.2 _) aV
    rw[D4 aV,←ao];exact sE ht
 have aC:∀m,l.length+m≤32→((List.range (l.length+m)).filter F).map Int.ofNat=o9 l l.length:=by
  intro m
  induction m with
  | zero=>intro h;exact ae _ h (JQ _)
  | succ m ao=>
   intro h;have ht:F (l.length+m)=false:=by
    cases aD:F (l.length+m) with
    | false=>rfl
    | true=>
     have:=(kV hl).1 ((hF _ ab).1 aD);omega
   rw[←ao ab];exact sE (k:=l.length+m) ht
 have:=aC (32 - l.length) ab;rw[show l.length+(32 - l.length)=32 by omega] at this;exact this
namespace Bc
theorem zs(h:p:=by
 go_upto_region 3 with(fail);generalize hV:World.alloc _ _=V;have aS:Ext aN V:=hV▸Kn.alloc _;have a4:af V aN.heap.size 94 (bW fun _=>false):=hV▸Ko;have cM:=a4.lt;have cc:=ai aS a4;clear hV aS a4;have Z:min (hn:Int) 32=(hn:Int):=ab;go_wp2_with(fail);clear Z;go_loopw [18] (fun cg wr=>∃k:Nat,cg=.int .i64 k∧k≤hn∧af wr aN.heap.size 94 (bW fun i=>decide (i<k))∧Fr (fun b=>b=aN.heap.size) V wr) (fun cg _=>hn - (intOf cg).toNat)
 case atStart=>exact⟨0,rfl,ab,by simpa using cc.2,Kn⟩
 case round=>
  obtain⟨k,rfl,aj,aL,hF⟩:=hrel;have bs:=ai aL hF;have hs:=hF.size;clear aL hF;by_cases aw:k<hn
  ·have g:(k:Int)<(hn:Int):=ab;have U:(k:Int)<32:=ab;have o1:=jf (k:=k) bs.1 ab;have aa:=bs.1.two.2.1;have bf:=bs.1.lt;go_upto_region 7 with(fail);generalize hX:World.setCell _ _ _=X;have bh:af X aN.heap.size 94 (bW fun i=>decide (i<k+1)):=by
    have he:(bW fun i=>decide (i<k+1))=bW fun i=>if i=k then true else decide (i<k):=by
     rw[kf];intro i _;by_cases al:i=k
     ·subst al;simp
     ·simp only[if_neg al];congr 1
      simp;omega
    rw[←hX,he,←tg];exact bs.1.aC k _
   have b0:Fr (fun b=>b=aN.heap.size) V X:=hX▸bs.2.setCell (.inl rfl) _;exact FE
  ·have g:¬(k:Int)<(hn:Int):=ab;have a4:=bs.1;have h0:(bW fun i=>decide (i<k))=bW (cF l 0):=by
    rw[kf];intro i _;have:=bK.1;unfold cF;rw[show ef l 0 (i:Int)=(i:Int) from rfl,decide_eq_true (show 0≤(i:Int) by omega),Bool.and_true];congr 1
    simp;omega
   rw[h0] at a4;clear h0 aw;have G:Ext aN wr:=Fr.low (M:=fun b=>b=aN.heap.size) (Fr.trans (Fr.mono cc.1 fun _ h=>h.elim) bs.2) fun b O=>ab;have aX:=aQ G a4 (H1.1.cO (Fr.ext G) G.size);have gi:=G.size;have T:=bs.2;clear G a4 bs;have a4:=aX.2.1;go_wp2_with(refine wpList_load_row rfl 94 _ rfl aN.heap.size rfl 94 (bW (cF l 0)) (0,0) _ a4 Tryz.underlying94 rfl (by kernel_rfl) ?_);refine(ll A hn c l (cF l 0) wr aX.2.2 bK.2 E).mono ?_;rintro e aO ⟨rfl,aS⟩;rw[show jt l (cF l 0)=cF l 1 from funext fun t=>mB bK.2 0 t];have J:=ai aS (a4.ak aS);have bY:=ad (T.trans (aS.mono fun _ h=>h.elim));clear a4 aS T;have bz:=J.1.size;have a5:=ua aO (cF l 1);go_upto_region 9 with(fail);generalize hX:World.alloc _ _=X;have bB:Ext aO X:=hX▸Kn.alloc _;have Q:af X aO.heap.size 94 (bW (cF l 1)):=hX▸Ko;have aP:=aQ bB (J.2.ak bB) Q;have co:=bB.size;clear hX bB Q a5;go_loopw [8] (fun er bV=>∃(m I:Nat),er=.pointer (some ⟨I,0,none⟩)∧af bV I 94 (bW (cF l (m+1)))∧af bV aN.heap.size 94 (bW (cF l m))∧aN.heap.size<I∧Fr (fun b=>b=aN.heap.size) V bV) (fun _ bV=>DA bV aN.heap.size)
   case atStart=>exact⟨0,aO.heap.size,rfl,aP.2.2,aP.2.1,ab,bY.trans (aP.1.mono fun _ h=>h.elim)⟩
   case round=>
    obtain⟨m,I,rfl,cq,a4,an,hF⟩:=hrel;have y:=cq.lt;obtain⟨r,aU,n⟩:=yl wr (cF l (m+1)) (cF l m);have b9:=ad n;have ce:=aQ cq a4 hF;have ao:=hF.size;clear n hF
    cases r with
    | true=>
     go_wp2_with(first
      | refine wpList_load_row rfl 94 _ rfl I rfl 94 (bW (cF l (m+1))) (0,0) _ cq Tryz.underlying94 rfl (by kernel_rfl) ?_
      | refine wpList_load_row rfl 94 _ rfl aN.heap.size rfl 94 (bW (cF l m)) (0,0) _ a4 Tryz.underlying94 rfl (by kernel_rfl) ?_)
     clear aU;have hv:∀i,i<32→(cF l m i=true↔(i:Int)∈nw l):=fun i al=>by
      have a5:=b9.1 (by simp);rcases Nat.lt_or_ge i l.length with ae|ae
      ·exact ym bK.2 (fun t ht=>a5 t (aH bK.1)) ae
      ·rw[kV bK.2];unfold cF;rw[decide_eq_false ab];constructor
       ·intro h;cases h
       ·intro h;omega
     have bX:=ad (vK (aH bK.1) hv bK.2);have ac:=ad (show Ext aN wr from Fr.low (M:=fun b=>b=aN.heap.size) (Fr.trans (Fr.mono cc.1 fun _ h=>h.elim) ce.2.2) fun b O=>ab);clear hv b9 cq a4;generalize cF l m=F at *;go_loopw [9,36] (fun v cg b1=>∃j:Nat,cg=.int .i64 j∧j≤32∧b1.ownsRow wr.heap.size 3 1 v (ir F j).length ((ir F j).flatMap b2)∧Below wr.heap.size wr b1) (fun _ cg _=>32 - (intOf cg).toNat)
     case atStart=>exact⟨0,rfl,ab,World.ownsRow_nil _ _ _ _,Below.refl _ _⟩
     case round=>
      obtain⟨j,rfl,bc,S,O⟩:=hrel;have bO:=O.size;have bF:=ye (F:=F) (k:=j);have L:=aQ (xk (F:=F) (k:=j)) (sE (F:=F) (k:=j)) (fun h:j=32=>show ir F j=ir F 32 by rw[h]);generalize ir F j=D at *;have bj:=ai S O;by_cases aw:j<32
      ·have g:(j:Int)<32:=ab;cases hFj:F j
       case true=>
        have bu:=ad (L.1 hFj);have H:=fun W=>(xo F aw W).trans (by rw[hFj]);clear hFj L;go_wp2_with(at_builtin;refine ch _ dm (by rfl) (.tmp 41) (.tmp 43) (by rfl) _ _ _ _ _ (by rfl) S (by rfl) (by rfl) (js _ _) ab ab bO ?_;intro v1 ci ag b7 cb);go_roundw
        case rel=>exact⟨j+1,by go_num,ab,by rw[bu.o,JS,e6];exact ag,dJ O S b7 (JQ _) bO⟩
        case measure=>exact aB
       case false=>
        have bu:=ad (L.2.1 hFj);have H:=fun W=>(xo F aw W).trans (by rw[hFj]);clear hFj L S O;go_wp2_with(fail);go_roundw
        case rel=>exact⟨j+1,by go_num,ab,by rw[bu.o];exact bj.1,bj.2⟩
        case measure=>exact aB
      ·have g:¬(j:Int)<32:=ab;have df:=ad (L.2.2 ab);clear aw L S O;go_wp2_with(fail);go_ret;rw[←bX.o,←df.o]
       exact g3.own rfl bj.1 (H1.2.trans (ac.trans (Fr.of bj.2)))
    | false=>
     go_upto_region 11 with(first
      | refine wpList_load_row rfl 94 _ rfl I rfl 94 (bW (cF l (m+1))) (0,0) _ cq Tryz.underlying94 rfl (by kernel_rfl) ?_
      | refine wpList_load_row rfl 94 _ rfl aN.heap.size rfl 94 (bW (cF l m)) (0,0) _ a4 Tryz.underlying94 rfl (by kernel_rfl) ?_)
     clear aU;have a5:=sK a4 (cF l (m+1))
     go_upto_region 12 with(first
      | refine wpList_load_row rfl 94 _ rfl I rfl 94 (bW (cF l (m+1))) (0,0) _ cq Tryz.underlying94 rfl (by kernel_rfl) ?_
      | refine wpList_load_row rfl 94 _ rfl aN.heap.size rfl 94 (bW (cF l m)) (0,0) _ a4 Tryz.underlying94 rfl (by kernel_rfl) ?_)
     clear a5;generalize hX:World.setRow _ _ _=X;have P:af X aN.heap.size 94 (bW (cF l (m+1))):=hX▸a4.setRow _;have b0:Fr (fun b=>b=aN.heap.size) wr X:=hX▸(Fr.refl (fun b=>b=aN.heap.size) wr).setRow (.inl rfl) _;have K:=cq.on b0 ab;have co:=b0.size;have a5:=ua X (cF l (m+1));clear hX cq a4;go_upto_region 10 with(refine wpList_load_row rfl 94 _ rfl I rfl 94 (bW (cF l (m+1))) (0,0) _ K Tryz.underlying94 rfl (by kernel_rfl) ?_);clear a5 K;generalize b6:World.alloc _ _=Y;have bA:Ext X Y:=b6▸Kn.alloc _;have bt:af Y X.heap.size 94 (bW (cF l (m+1))):=b6▸Ko;have z:=P.ak bA;have o:=(ce.2.2.trans b0).trans (bA.mono fun _ h=>h.elim);have R:Ext aN Y:=Fr.low (M:=fun b=>b=aN.heap.size) (Fr.trans (Fr.mono cc.1 fun _ h=>h.elim) o) fun b O=>ab;have bM:=bw bt z o R;clear b6 bA bt P o b0 R;go_wp2_with(refine wpList_load_row rfl 94 _ rfl aN.heap.size rfl 94 (bW (cF l (m+1))) (0,0) _ z Tryz.underlying94 rfl (by kernel_rfl) ?_);refine(ll A hn c l (cF l (m+1)) Y (H1.1.cO (Fr.ext bM.2.2.2) bM.2.2.2.size) bK.2 E).mono ?_;rintro e bU ⟨rfl,bB⟩;rw[show jt l (cF l (m+1))=cF l (m+1+1) from funext fun t=>mB bK.2 (m+1) t];have bP:=bM.1.ak bB;have a5:=sK bP (cF l (m+1+1));have bl:=aQ bP (bM.2.1.ak bB) (bM.2.2.1.trans (bB.mono fun _ h=>h.elim));have cu:=bB.size;clear bP bB z;go_wp2_with(fail);clear a5;have dw:af (bU.setRow X.heap.size (bW (cF l (m+1+1)))) aN.heap.size 94 (bW (cF l (m+1))):=bl.2.1.on (M:=fun b=>b=X.heap.size) ((Fr.refl (fun b=>b=X.heap.size) bU).setRow (.inl rfl) _) ab;have bS:=ad dw;clear dw
     go_roundw
     case rel=>exact⟨m+1,X.heap.size,rfl,bl.1.setRow _,bS.o,ab,bl.2.2.setRow (.inr ab) _⟩
     case measure=>
      rw[ur bS.o,ur ce.2.1];have a1:∃i,i<32∧cF l (m+1) i≠cF l m i:=Classical.byContradiction fun h=>by
       have:=b9.2 fun i al=>Classical.byContradiction fun bm=>h ⟨i,al,bm⟩;cases this
      obtain⟨i,al,bm⟩:=a1;have ae:cF l m i=true:=by
       cases hm:cF l m i with
       | true=>rfl
       | false=>
        cases cf:cF l (m+1) i with
        | false=>rw[hm,cf] at bm;exact absurd rfl bm
        | true=>rw[uc cf] at hm;cases hm
      exact xF (fun i=>uc) al ae (by cases cf:cF l (m+1) i with
       | false=>rfl
       | true=>rw[cf,ae] at bm;exact absurd rfl bm)
 ):p:=h
theorem mP(h:p:=by
 exact zr
 ):p:=h
theorem fM(h:p:=by
 obtain⟨hlen,cy,E⟩:=h.len;have cn:=ai h hlen;clear h hlen;simp only at cy E;dsimp only[UV.val,SV.val];go_enter func19,ntmps19;exact mO
 ):p:=h
end Bc
open Bc in
theorem HF(u:av)(s:ah)(N:Nat)(w:World)(p:UV)(q:SV)(h:lv u s N w p q) :
  Calls prog 19 #[.agg (p.val u),.agg (q.val s)] w (g3 w (nw (cL u s))):=by
 exact fL
end Go.Proofs.YtbkhhfajcgkpgaaGreat

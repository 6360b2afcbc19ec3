/- Part 28 of the proof. No condition of its own. -/
import Derived.Test.YtflecliffjbleaaGreatS27
namespace Go.Proofs.YtflecliffjbleaaGreat
open Go.RowKit Go.Proofs.Tryz
set_option maxRecDepth 1000000
set_option maxHeartbeats 25600000
set_option linter.unusedVariables false
variable{g:Nat}{F:Nat->Bool}{p:Prop}{w:World}
def ch(f:Nat->Bool):Array Value:=#[.bool (f 0),.bool (f 1),.bool (f 2),.bool (f 3),.bool (f 4),.bool (f 5),.bool (f 6),.bool (f 7),.bool (f 8),.bool (f 9),.bool (f 10),.bool (f 11),.bool (f 12),.bool (f 13),.bool (f 14),.bool (f 15),.bool (f 16),.bool (f 17),.bool (f 18),.bool (f 19),.bool (f 20),.bool (f 21),.bool (f 22),.bool (f 23),.bool (f 24),.bool (f 25),.bool (f 26),.bool (f 27),.bool (f 28),.bool (f 29),.bool (f 30),.bool (f 31)]
theorem im(f:Nat->Bool):(ch f).toList=(List.range 32).map λi=>.bool (f i):=rfl
theorem o5(f:Nat->Bool){k:Nat}(h:k<32):(ch f)[k]?=some (.bool (f k)):=by
 rw[<-Array.getElem?_toList,im,List.getElem?_map,List.getElem?_range h];rfl
theorem tZ(f:Nat->Bool)(k:Nat)(b:Bool):(ch f).setIfInBounds k (.bool b)=ch λi=>if i=k then b else f i:=by
 refine Array.ext' ?_;rw[Array.toList_setIfInBounds,im,im];refine List.ext_getElem? λi=>?_;rw[List.getElem?_set,List.getElem?_map,List.getElem?_map];by_cases al:i<32
 .rw[List.getElem?_range al];by_cases aj:k=i
  .subst aj;simp[al]
  .simp[aj,Ne.symm aj]
 .rw[List.getElem?_eq_none (by simpa using al)];simp;omega
theorem kG{f g:Nat->Bool}:ch f=ch g↔∀i,i<32->f i=g i:=by
 constructor
 .intro h i al;have ac:=o5 f al;rw[h,o5 g al] at ac;injection ac with ac;injection ac with ac;exact ac.symm
 .intro h;refine Array.ext' ?_;rw[im,im];refine List.map_congr_left λi al=>?_;rw[h i (List.mem_range.1 al)]
section
variable {l:List Int} {f:Nat->Bool} {k:Nat} {x:Int} {b:Bool}
theorem Ip(h:l[k]?=some x):rv l (k:Int)=x:=by
 unfold rv;rw[if_neg ad,LZ,List.getD_eq_getElem?_getD,h];rfl
theorem Gp(h:l[k]?=some x):jQ l f k=(f k && decide (0<=x) && f x.toNat):=by
 unfold jQ;rw[Ip h,decide_eq_true (List.getElem?_eq_some_iff.1 h).1,Bool.true_and]
theorem uV(h:jQ l f k=b):(ch λi=>if i=k then b else decide (i<k) && jQ l f i)=ch λi=>decide (i<k+1) && jQ l f i:=by
 rw[kG];intro i _;by_cases al:i=k
 .subst al;simp[h]
 .simp only[if_neg al];congr 1
  simp;omega
theorem uU(h:jQ l f k=false):(ch λi=>decide (i<k) && jQ l f i)=ch λi=>decide (i<k+1) && jQ l f i:=by
 rw[<-uV h,kG];intro i _;by_cases al:i=k
 .subst al;simp
 .simp[if_neg al]
theorem Gq(h:l.length=k):(ch λi=>decide (i<k) && jQ l f i)=ch (jQ l f):=by
 rw[kG];intro i _;unfold jQ;rw[h];by_cases al:i<k<;>simp[al]
theorem jC(h:ao w g 87 (ch f))(aj:k<32):w.cell? ⟨g,k,none⟩=some (.bool (f k)):=(h.two.1 k).trans (o5 f aj)
end
theorem ao.setRow{w:World}{g:Nat}{t:TypeId}{cs:Array Value}(h:ao w g t cs)(vs:Array Value):ao (w.setRow g vs) g t vs:=by
 unfold ao at h ⊢;simp[World.setRow,Array.getElem?_modify,h]
theorem Fr.setRow{M:Nat->Prop}{S w:World}{g:Nat}(h:Fr M S w)(aY:M g\/S.heap.size<=g)(vs:Array Value):Fr M S (w.setRow g vs) where
 os:=h.os
 tape:=h.tape
 output:=h.output
 size:=by simpa[World.setRow] using h.size
 block k aj hm:=by
  have bl:g≠k:=λe=>by
   subst e;rcases aY with aY|aY
   .exact hm aY
   .omega
  simp only[World.setRow,Array.getElem?_modify,if_neg bl];exact h.block k aj hm
theorem tY:∀v∈(ch F).toList,v.oneCell'=true:=λv bG=>by
 rw[im] at bG;obtain⟨i,_,rfl⟩:=L5.1 bG;rfl
theorem tx{f:Nat->Bool}(h:ao w g 87 (ch f))(F:Nat->Bool):(storeCells ⟨g,0,none⟩ (ch F).toList).run prog w=.ok () (w.setRow g (ch F)):=by
 rw[run_storeCells_from g 87 _ 0 _ w h (by simp[ch]) tY];simp
theorem w8(w:World)(c aD:Array Value)(t:TypeId):(w.alloc (.cells c t)).setRow w.heap.size aD=w.alloc (.cells aD t):=by
 unfold World.setRow World.alloc;congr 1
 refine Array.ext_getElem? λi=>?_;rw[Array.getElem?_modify,Array.getElem?_push,Array.getElem?_push];by_cases h:w.heap.size=i
 .subst h;simp
 .rw[if_neg h];simp[Ne.symm h]
theorem w7(w:World)(z:Array Value)(aG:z.size=32)(F:Nat->Bool):(storeCells ⟨w.heap.size,0,none⟩ (ch F).toList).run prog (w.alloc (.cells z 87))=.ok () (w.alloc (.cells (ch F) 87)):=by
 rw[run_storeCells_from w.heap.size 87 _ 0 z _ (heap_alloc_new _ _) (by simp[ch,aG]) tY];simp[w8]
theorem va(w:World)(F:Nat->Bool):(storeCells ⟨w.heap.size,0,none⟩ (ch F).toList).run prog (w.alloc (.cells #[.bool false,.bool false,.bool false,.bool false,.bool false,.bool false,.bool false,.bool false,.bool false,.bool false,.bool false,.bool false,.bool false,.bool false,.bool false,.bool false,.bool false,.bool false,.bool false,.bool false,.bool false,.bool false,.bool false,.bool false,.bool false,.bool false,.bool false,.bool false,.bool false,.bool false,.bool false,.bool false] 87))=.ok () (w.alloc (.cells (ch F) 87)):=w7 w _ rfl F
theorem lW(A:Mk)(n c:Nat)(l:List Int)(f:Nat->Bool)(w:World)(h:cA (EF cd) 1 w w.heap.size A n l)(hl:dF l)(hn:n<=32) :
  Calls prog 35 #[.slice A n c,.agg (ch f)] w λe ab=>e=.returned (.agg (ch (jQ l f)))/\Ext w ab:=by
 have hlen:l.length=n:=by have:=h.1;omega
 have cC:=aA hl hlen h;clear hl hlen h;unfold ch;go_enter func35,ntmps35;go_upto_region 2 with(fail);generalize bd:World.alloc _ _=W;have aF:Ext w W:=bd▸((Mg.alloc _).alloc _).alloc _;have bU:ao W w.heap.size 87 (ch f):=bd▸((Mh).alloc _).alloc _;have bQ:ao W (w.heap.size+1) 87 (ch λ_=>false):=bd▸(ao.gA _ _ _ (by simp)).alloc _;have be:ao W (w.heap.size+2) 87 (ch λ_=>false):=bd▸ao.gA _ _ _ (by simp);have cS:=be.lt;have ag:=cX aF bU bQ be (cC.2.2.cS (Fr.ext aF) aF.size);clear bd aF bU bQ be;go_wp2_with(fail);go_loopw [10] (λcw wr=>∃k:Nat,cw=.int .i64 k/\k<=n/\ao wr (w.heap.size+2) 87 (ch λi=>decide (i<k) && jQ l f i)/\Fr (λb=>b=w.heap.size+2) W wr) (λcw _=>n - (intOf cw).toNat)
 case atStart=>exact⟨0,rfl,ad,by simpa using ag.2.2.2.1,Mg⟩
 case round=>
  obtain⟨k,rfl,aj,aS,hF⟩:=hrel;have hs:=hF.size;have bH:=ah aS hF;clear aS hF;by_cases ap:k<n
  .have aU:(k:Int)<(n:Int):=ad;have U:(k:Int)<32:=ad;obtain⟨b,o,x,rfl,an,hx,c0⟩:=cC.2.2.int ap;have T:b<wr.heap.size:=by have:=ag.1.size;omega
   have az:=cC.1 x (LF hx);rw[cC.2.1] at az;have e0:=((Fr.cell (j:=o+k) ag.1 an (λh=>h)).trans c0)
   have e1:=((bH.2.cell (j:=o+k) (aB ag.1.size) ad).trans e0)
   have ce:=jC (k:=k) (ag.2.1.on bH.2 ad) ad;have cu:w.heap.size<wr.heap.size:=ad;have g:=ae (Gp (f:=f) hx);clear c0 e0 hx an
   cases hfk:f k with
   | false=>
    rw[hfk] at ce;have bM:=ae (uU (l:=l) (f:=f) (k:=k) (by rw[g.o,hfk];rfl));clear hfk g
    exact zT
   | true=>
    rw[hfk] at ce;by_cases bF:0<=x
    case neg=>
     have q1:decide (x>=0)=false:=by simp;omega
     have bM:=ae (uU (l:=l) (f:=f) (k:=k) (by rw[g.o,decide_eq_false bF];simp));clear hfk g bF;exact zT
    have q1:decide (x>=0)=true:=by simpa using bF
    have m:x<32:=ad;obtain⟨j,rfl⟩:=LH bF;have g2:=jC (k:=j) (ag.2.1.on bH.2 ad) ad;have o1:=jC (k:=k) bH.1 ad;have aa:=bH.1.two.2.1;have bM:=ae (uV (l:=l) (f:=f) (k:=k) (b:=f j) (by rw[g.o,hfk,decide_eq_true bF];simp));have bo:=bH.1.lt;clear hfk g bF az;generalize f j=r at *;go_upto_region 7 with(fail);generalize hX:World.setCell _ _ _=X;have bC:ao X (w.heap.size+2) 87 (ch λi=>decide (i<k+1) && jQ l f i):=by rw[<-hX,<-bM.o,<-tZ];exact bH.1.aJ k _
    have ct:Fr (λb=>b=w.heap.size+2) W X:=hX▸bH.2.setCell (.inl rfl) _;exact Ho
  .have aU:¬(k:Int)<(n:Int):=ad;have cW:=bH.1;rw[Gq (aB cC.2.1)] at cW;obtain⟨F,hF⟩:∃F,F=jQ l f:=⟨_,rfl⟩
   rw[<-hF] at cW;have z:=ae hF;have bQ:=ag.2.2.1.on bH.2 ad;have R:Ext w wr:=Fr.low (M:=λb=>b=w.heap.size+2) (Fr.trans (Fr.mono ag.1 λ_ h=>h.elim) bH.2) λb O=>ad;have bj:=ah bQ R;clear bQ R bH hF;have cm:=tx bj.1 F;go_wp2_with(refine wpList_load_row rfl 87 _ rfl (w.heap.size+2) rfl 87 (ch F) (0,0) _ cW Tryz.underlying87 rfl (by kernel_rfl) ?_);generalize hX:World.setRow _ _ _=Z;have bt:ao Z (w.heap.size+1) 87 (ch F):=hX▸bj.1.setRow _;have ba:Ext w Z:=hX▸bj.2.setRow (.inr ad) _;refine⟨rfl,.agg (ch F),?_,?_⟩
   .exact results_cell_row rfl _ _ (w.heap.size+1) 87 (ch F) (0,0) _ rfl bt Tryz.underlying87 rfl (by kernel_rfl)
   have hF:=z.o;subst hF;exact⟨rfl,ba⟩
theorem yq(F:Nat->Bool){j:Nat}(bi:j<32)(w:World):(Instr.index 87 (.agg (ch F)) (.int .i64 (j:Int))).run prog w=.ok (.bool (F j)) w:=by
 simp[Instr.index,run_underlying Tryz.underlying87,asIntOf,go_sem,bi,o5 F bi]
theorem zt(w:World)(F G:Nat->Bool):∃r:Bool,(Op.equalIn 10000 87 (.agg (ch F)) (.agg (ch G))).run prog w=.ok r w/\(r=true↔∀i,i<32->F i=G i):=by
 have aj:∀F:Nat->Bool,prog.keyLits 5 87 (Value.agg (ch F)).cells.toList=some ((List.range 32).map λi=>Lit.bool (F i)):=λF=>by kernel_rfl
 obtain⟨r,a9,n⟩:=run_equalIn_deep (P:=prog) 9998 2 87 (by kernel_rfl) w 5 5 (.agg (ch F)) (.agg (ch G)) _ _ (by kernel_rfl) (by kernel_rfl) (aj F) (aj G);refine⟨r,a9,n.trans ?_⟩;rw[List.map_inj_left];constructor
 .intro h i al;have:=h i (List.mem_range.2 al);injection this
 .intro h i al;rw[h i (List.mem_range.1 al)]
def K0:Option Value->Bool
 | some (.bool b)=>b
 | _=>false
def Fc(w:World)(g:Nat):Nat:=(List.range 32).countP λi=>K0 (w.cell? ⟨g,i,none⟩)
theorem vp{f:Nat->Bool}(h:ao w g 87 (ch f)):Fc w g=(List.range 32).countP f:=by
 unfold Fc;refine List.countP_congr λi al=>?_;rw[jC h (List.mem_range.1 al)];rfl
theorem yO{f g:Nat->Bool}(hs:∀i,g i=true->f i=true){i:Nat}(al:i<32)(ac:f i=true)(ax:g i=false):(List.range 32).countP g<(List.range 32).countP f:=by
 have h:(List.range 32).countP f=(List.range 32).countP g+(List.range 32).countP λi=>f i && !g i:=by
  generalize List.range 32=l
  induction l with
  | nil=>rfl
  | cons x l aq=>
   simp only[List.countP_cons,aq];cases J:f x<;>cases aY:g x<;>simp
   .have:=hs x aY;rw[J] at this;cases this
   .omega
   .omega
 have:0<(List.range 32).countP λi=>f i && !g i:=List.countP_pos_iff.2 ⟨i,List.mem_range.2 al,by simp[ac,ax]⟩;omega
def iS(F:Nat->Bool)(k:Nat):List Int:=((List.range k).filter F).map Int.ofNat
theorem zm{k:Nat}:(iS F k).length<=k:=by
 unfold iS;rw[LG];refine LU (List.length_filter_le _ _) ?_;simp
theorem yk{k:Nat}(h:F k=true):iS F (k+1)=iS F k++[(k:Int)]:=by
 unfold iS;rw[List.range_succ,List.filter_append,LJ];simp[h]
theorem tr{k:Nat}(h:F k=false):iS F (k+1)=iS F k:=by
 unfold iS;rw[List.range_succ,List.filter_append];simp[h]
theorem wW{l:List Int}(hn:l.length<=32)(hF:∀i,i<32->(F i=true↔(i:Int)∈oj l))(hl:dF l):iS F 32=oj l:=by
 unfold iS;have ac:∀k,k<=32->k<=l.length->((List.range k).filter F).map Int.ofNat=p1 l k:=by
  intro k
  induction k with
  | zero=>intro _ _;rfl
  | succ k aq=>
   intro aD aj;have aq:=aq ad ad;have hm:=hF k ad;rw[lA hl] at hm;by_cases br:0<=eD l (l.length+1) (k:Int)
   .have ht:F k=true:=hm.2 ⟨ad,ad,pP hl ad (dK br ad)⟩;rw[FL br,<-aq];exact yk ht
   .have ht:F k=false:=by
     cases J:F k with
     | false=>rfl
     | true=>exact absurd ((hm.1 J).2.2 _) br
    rw[FK br,<-aq];exact tr ht
 have ax:∀m,l.length+m<=32->((List.range (l.length+m)).filter F).map Int.ofNat=p1 l l.length:=by
  intro m
  induction m with
  | zero=>intro h;exact ac _ h (Lz _)
  | succ m aq=>
   intro h;have ht:F (l.length+m)=false:=by
    cases J:F (l.length+m) with
    | false=>rfl
    | true=>
     have:=(lA hl).1 ((hF _ ad).1 J);omega
   rw[<-aq ad];exact tr (k:=l.length+m) ht
 have:=ax (32 - l.length) ad;rw[show l.length+(32 - l.length)=32 by omega] at this;exact this
namespace CL
theorem AK(h:p:=by
 go_upto_region 3 with(fail);generalize hV:World.alloc _ _=V;have aT:Ext aP V:=hV▸Mg.alloc _;have bm:ao V aP.heap.size 87 (ch λ_=>false):=hV▸Mh;have dj:=bm.lt;have cc:=ah aT bm;clear hV aT bm;have T:min (hn:Int) 32=(hn:Int):=ad;go_wp2_with(fail);clear T;go_loopw [18] (λcw wr=>∃k:Nat,cw=.int .i64 k/\k<=hn/\ao wr aP.heap.size 87 (ch λi=>decide (i<k))/\Fr (λb=>b=aP.heap.size) V wr) (λcw _=>hn - (intOf cw).toNat)
 case atStart=>exact⟨0,rfl,ad,by simpa using cc.2,Mg⟩
 case round=>
  obtain⟨k,rfl,aj,aS,hF⟩:=hrel;have bH:=ah aS hF;have hs:=hF.size;clear aS hF;by_cases ap:k<hn
  .have aU:(k:Int)<(hn:Int):=ad;have U:(k:Int)<32:=ad;have o1:=jC (k:=k) bH.1 ad;have aa:=bH.1.two.2.1;have bo:=bH.1.lt;go_upto_region 7 with(fail);generalize hX:World.setCell _ _ _=X;have bC:ao X aP.heap.size 87 (ch λi=>decide (i<k+1)):=by
    have he:(ch λi=>decide (i<k+1))=ch λi=>if i=k then true else decide (i<k):=by
     rw[kG];intro i _;by_cases al:i=k
     .subst al;simp
     .simp only[if_neg al];congr 1
      simp;omega
    rw[<-hX,he,<-tZ];exact bH.1.aJ k _
   have ct:Fr (λb=>b=aP.heap.size) V X:=hX▸bH.2.setCell (.inl rfl) _;exact Ho
  .have aU:¬(k:Int)<(hn:Int):=ad;have bm:=bH.1;have h0:(ch λi=>decide (i<k))=ch (cQ l 0):=by
    rw[kG];intro i _;have:=b2.1;unfold cQ;rw[show eD l 0 (i:Int)=(i:Int) from rfl,decide_eq_true (show 0<=(i:Int) by omega),Bool.and_true];congr 1
    simp;omega
   rw[h0] at bm;clear h0 ap;have z:Ext aP wr:=Fr.low (M:=λb=>b=aP.heap.size) (Fr.trans (Fr.mono cc.1 λ_ h=>h.elim) bH.2) λb O=>ad;have a2:=aA z bm (H1.1.cS (Fr.ext z) z.size);have dL:=z.size;have R:=bH.2;clear z bm bH;have bm:=a2.2.1;go_wp2_with(refine wpList_load_row rfl 87 _ rfl aP.heap.size rfl 87 (ch (cQ l 0)) (0,0) _ bm Tryz.underlying87 rfl (by kernel_rfl) ?_);refine(lW A hn c l (cQ l 0) wr a2.2.2 b2.2 g).mono ?_;rintro e aW ⟨rfl,aT⟩;rw[show jQ l (cQ l 0)=cQ l 1 from funext λt=>m6 b2.2 0 t];have a7:=ah aT (bm.aj aT);have b9:=ae (R.trans (aT.mono λ_ h=>h.elim));clear bm aT R;have bP:=a7.1.size;have cm:=va aW (cQ l 1);go_upto_region 9 with(fail);generalize hX:World.alloc _ _=X;have a3:Ext aW X:=hX▸Mg.alloc _;have L:ao X aW.heap.size 87 (ch (cQ l 1)):=hX▸Mh;have aR:=aA a3 (a7.2.aj a3) L;have cx:=a3.size;clear hX a3 L cm;go_loopw [8] (λex bp=>∃(m E:Nat),ex=.pointer (some ⟨E,0,none⟩)/\ao bp E 87 (ch (cQ l (m+1)))/\ao bp aP.heap.size 87 (ch (cQ l m))/\aP.heap.size<E/\Fr (λb=>b=aP.heap.size) V bp) (λ_ bp=>Fc bp aP.heap.size)
   case atStart=>exact⟨0,aW.heap.size,rfl,aR.2.2,aR.2.1,ad,b9.trans (aR.1.mono λ_ h=>h.elim)⟩
   case round=>
    obtain⟨m,E,rfl,bf,bm,ab,hF⟩:=hrel;have y:=bf.lt;obtain⟨r,a9,n⟩:=zt wr (cQ l (m+1)) (cQ l m);have cM:=ae n;have bS:=aA bf bm hF;have an:=hF.size;clear n hF
    cases r with
    | true=>
     go_wp2_with(first
      | refine wpList_load_row rfl 87 _ rfl E rfl 87 (ch (cQ l (m+1))) (0,0) _ bf Tryz.underlying87 rfl (by kernel_rfl) ?_
      | refine wpList_load_row rfl 87 _ rfl aP.heap.size rfl 87 (ch (cQ l m)) (0,0) _ bm Tryz.underlying87 rfl (by kernel_rfl) ?_)
     clear a9;have ia:∀i,i<32->(cQ l m i=true↔(i:Int)∈oj l):=λi al=>by
      have cm:=cM.1 (by simp);rcases Nat.lt_or_ge i l.length with ac|ac
      .exact zu b2.2 (λt ht=>cm t (aB b2.1)) ac
      .rw[lA b2.2];unfold cQ;rw[decide_eq_false ad];constructor
       .intro h;cases h
       .intro h;omega
     have bT:=ae (wW (aB b2.1) ia b2.2);have Z:=ae (show Ext aP wr from Fr.low (M:=λb=>b=aP.heap.size) (Fr.trans (Fr.mono cc.1 λ_ h=>h.elim) bS.2.2) λb O=>ad);clear ia cM bf bm;generalize cQ l m=F at *;go_loopw [9,36] (λv cw cg=>∃j:Nat,cw=.int .i64 j/\j<=32/\cg.ownsRow wr.heap.size 3 1 v (iS F j).length ((iS F j).flatMap cd)/\Below wr.heap.size wr cg) (λ_ cw _=>32 - (intOf cw).toNat)
     case atStart=>exact⟨0,rfl,ad,World.ownsRow_nil _ _ _ _,Below.refl _ _⟩
     case round=>
      obtain⟨j,rfl,bi,az,O⟩:=hrel;have ci:=O.size;have cr:=zm (F:=F) (k:=j);have Q:=aA (yk (F:=F) (k:=j)) (tr (F:=F) (k:=j)) (λh:j=32=>show iS F j=iS F 32 by rw[h]);generalize iS F j=D at *;have a5:=ah az O;by_cases ap:j<32
      .have aU:(j:Int)<32:=ad;cases hFj:F j
       case true=>
        have bM:=ae (Q.1 hFj);have H:=λW=>(yq F ap W).trans (by rw[hFj]);clear hFj Q;go_wp2_with(at_builtin;refine cy _ cU (by rfl) (.tmp 41) (.tmp 43) (by rfl) _ _ _ _ _ (by rfl) az (by rfl) (by rfl) (jO _ _) ad ad ci ?_;intro v1 cI S aI b5);go_roundw
        case rel=>exact⟨j+1,by go_num,ad,by rw[bM.o,LD,fF];exact S,dX O az aI (Lz _) ci⟩
        case measure=>exact aE
       case false=>
        have bM:=ae (Q.2.1 hFj);have H:=λW=>(yq F ap W).trans (by rw[hFj]);clear hFj Q az O;go_wp2_with(fail);go_roundw
        case rel=>exact⟨j+1,by go_num,ad,by rw[bM.o];exact a5.1,a5.2⟩
        case measure=>exact aE
      .have aU:¬(j:Int)<32:=ad;have dQ:=ae (Q.2.2 ad);clear ap Q az O;go_wp2_with(fail);go_ret;rw[<-bT.o,<-dQ.o]
       exact hR.own rfl a5.1 (H1.2.trans (Z.trans (Fr.of a5.2)))
    | false=>
     go_upto_region 11 with(first
      | refine wpList_load_row rfl 87 _ rfl E rfl 87 (ch (cQ l (m+1))) (0,0) _ bf Tryz.underlying87 rfl (by kernel_rfl) ?_
      | refine wpList_load_row rfl 87 _ rfl aP.heap.size rfl 87 (ch (cQ l m)) (0,0) _ bm Tryz.underlying87 rfl (by kernel_rfl) ?_)
     clear a9;have cm:=tx bm (cQ l (m+1))
     go_upto_region 12 with(first
      | refine wpList_load_row rfl 87 _ rfl E rfl 87 (ch (cQ l (m+1))) (0,0) _ bf Tryz.underlying87 rfl (by kernel_rfl) ?_
      | refine wpList_load_row rfl 87 _ rfl aP.heap.size rfl 87 (ch (cQ l m)) (0,0) _ bm Tryz.underlying87 rfl (by kernel_rfl) ?_)
     clear cm;generalize hX:World.setRow _ _ _=X;have K:ao X aP.heap.size 87 (ch (cQ l (m+1))):=hX▸bm.setRow _;have ct:Fr (λb=>b=aP.heap.size) wr X:=hX▸(Fr.refl (λb=>b=aP.heap.size) wr).setRow (.inl rfl) _;have J:=bf.on ct ad;have cx:=ct.size;have cm:=va X (cQ l (m+1));clear hX bf bm;go_upto_region 10 with(refine wpList_load_row rfl 87 _ rfl E rfl 87 (ch (cQ l (m+1))) (0,0) _ J Tryz.underlying87 rfl (by kernel_rfl) ?_);clear cm J;generalize cq:World.alloc _ _=Y;have bx:Ext X Y:=cq▸Mg.alloc _;have bD:ao Y X.heap.size 87 (ch (cQ l (m+1))):=cq▸Mh;have o:=K.aj bx;have G:=(bS.2.2.trans ct).trans (bx.mono λ_ h=>h.elim);have P:Ext aP Y:=Fr.low (M:=λb=>b=aP.heap.size) (Fr.trans (Fr.mono cc.1 λ_ h=>h.elim) G) λb O=>ad;have bF:=bA bD o G P;clear cq bx bD K G ct P;go_wp2_with(refine wpList_load_row rfl 87 _ rfl aP.heap.size rfl 87 (ch (cQ l (m+1))) (0,0) _ o Tryz.underlying87 rfl (by kernel_rfl) ?_);refine(lW A hn c l (cQ l (m+1)) Y (H1.1.cS (Fr.ext bF.2.2.2) bF.2.2.2.size) b2.2 g).mono ?_;rintro e b4 ⟨rfl,a3⟩;rw[show jQ l (cQ l (m+1))=cQ l (m+1+1) from funext λt=>m6 b2.2 (m+1) t];have bU:=bF.1.aj a3;have cm:=tx bU (cQ l (m+1+1));have ba:=aA bU (bF.2.1.aj a3) (bF.2.2.1.trans (a3.mono λ_ h=>h.elim));have cF:=a3.size;clear bU a3 o;go_wp2_with(fail);clear cm;have bO:ao (b4.setRow X.heap.size (ch (cQ l (m+1+1)))) aP.heap.size 87 (ch (cQ l (m+1))):=ba.2.1.on (M:=λb=>b=X.heap.size) ((Fr.refl (λb=>b=X.heap.size) b4).setRow (.inl rfl) _) ad;have I:=ae bO;clear bO
     go_roundw
     case rel=>exact⟨m+1,X.heap.size,rfl,ba.1.setRow _,I.o,ad,ba.2.2.setRow (.inr ad) _⟩
     case measure=>
      rw[vp I.o,vp bS.2.1];have bl:∃i,i<32/\cQ l (m+1) i≠cQ l m i:=Classical.byContradiction λh=>by
       have:=cM.2 λi al=>Classical.byContradiction λbv=>h ⟨i,al,bv⟩;cases this
      obtain⟨i,al,bv⟩:=bl;have ac:cQ l m i=true:=by
       cases hm:cQ l m i with
       | true=>rfl
       | false=>
        cases cp:cQ l (m+1) i with
        | false=>rw[hm,cp] at bv;exact absurd rfl bv
        | true=>rw[vc cp] at hm;cases hm
      exact yO (λi=>vc) al ac (by cases cp:cQ l (m+1) i with
       | false=>rfl
       | true=>rw[cp,ac] at bv;exact absurd rfl bv)
 ):p:=h
theorem eZ(h:p:=by
 obtain⟨hlen,cP,g⟩:=h.len;have cC:=ah h hlen;clear h hlen;simp only at cP g;dsimp only[UV.val,SV.val];go_enter func12,ntmps12;go_upto_region 1 with(fail);generalize bd:World.alloc _ _=W;have aF:Ext w W:=bd▸(Mg.alloc _).alloc _;have bQ:ao W w.heap.size 26 #[.slice GA gn gc,.slice MA mn mc,.slice PA pn pc,.int .i64 u.main]:=bd▸(Mh).alloc _;have be:ao W (w.heap.size+1) 30 #[.slice bE bK bw,.slice TA tn tc,.slice HA hn hc,.int .i64 s.fault]:=bd▸ao.gA _ _ _ (by simp);exact AJ
 ):p:=h
end CL
open CL in
theorem Ju(u:aw)(s:ai)(N:Nat)(w:World)(p:UV)(q:SV)(h:l2 u s N w p q) :
  Calls prog 12 #[.agg (p.val u),.agg (q.val s)] w (hR w (oj (c4 u s))):=by
 exact eY
section
variable {U:hW} {G:Env} {l:List dQ} {V T:Ml} {n nk:Int}
theorem Sc.gg(hS:Sc U G l V T n nk):∀(d:Nat) (x:VE),x.src V d->gg l x
 | d,.num k,h=>trivial
 | d,.ha s,h=>by
  have q:s∈V:=by cases d<;>exact h
  obtain⟨e,he,aj⟩:=hS.vars s q
  exact⟨e,he,aj.imp (λh=>h.1) (λh=>h.1)⟩
 | d,.loc _,h=>by cases d<;>exact h.elim
 | d,.iK _,h=>by cases d<;>exact h.elim
 | 0,.un _ _,h=>h.elim
 | 0,.bin _ _ _,h=>h.elim
 | d+1,.un op x,h=>⟨h.1,Sc.gg hS d x h.2⟩
 | d+1,.bin op x y,h=>⟨h.1,Sc.gg hS d x h.2.1,Sc.gg hS d y h.2.2⟩
theorem Sc.qP(hS:Sc U G l V T n nk)(r:eW)(h:su G V r):qP U.af l r:=by
 rcases h with⟨m,hm,hn,ac,ax⟩|⟨hp,al⟩
 .obtain⟨e,he,aj,h0,hu⟩:=hS.Jz m hm;rw[hn] at he;exact⟨e,he,.inr ⟨aj,m,h0,hu,λhs=>by obtain⟨x,hx,aw⟩:=ac hs;exact⟨x,hx,hS.gg 2 x aw⟩,ax⟩⟩
 .obtain⟨e,he,aj,_,_⟩:=hS.EK _ hp;exact⟨e,he,.inl ⟨aj,al⟩⟩
end
def vC(F:List aG)(G:Env)(l:List dQ):Prop:=∀s ps,(s,ps)∈G.funcs->∃(e:dQ) (f:aG),dD l s=some e/\e.kind=3/\0<=e.n/\F[e.n.toNat]?=some f/\f.params=ps
theorem vC.app{F:List aG}{G:Env}{l:List dQ}(h:vC F G l)(x:dQ):vC F G (l++[x]):=λs ps hs=>by
 obtain⟨e,f,he,r⟩:=h s ps hs;exact⟨e,f,jJ he,r⟩
theorem Ec{p:bM}(hp:pB p){f:aG}(J:f∈p.funcs):vC p.funcs (gN p f) (bm p++dV f.params 0 0):=by
 intro s ps hs;have aK:((bm p++dV f.params 0 0).map (·.name)).Nodup:=by
  rw[LJ,gb,fZ];exact(hp.funcs f J).fresh
 obtain⟨g,aY,bF⟩:=L5.1 hs;injection bF with aI an;subst aI an;obtain⟨i,al⟩:=List.getElem?_of_mem aY;have:=lv aK (LL.2 (.inl (by unfold bm;exact LL.2 (.inr (iq (·.name) 3 p.funcs 0 i g al)))));refine⟨_,g,this,rfl,by show (0:Int)<=((0+i:Nat):Int);omega,?_,rfl⟩;show p.funcs[(((0+i:Nat):Int)).toNat]?=some g
 rw[LZ,LW];exact al
def jt(M:List bL)(l:List dQ):List (ByteArray×Bool)->List dj->Prop
 | [],[]=>True
 | p::ps,.mx r::aT=>(p.2=true/\qP M l r)/\jt M l ps aT
 | p::ps,.ex e::aT=>(p.2=false/\gg l e)/\jt M l ps aT
 | _,_=>False
theorem Sc.jt{U:hW}{G:Env}{l:List dQ}{V T:Ml}{n nk:Int}(hS:Sc U G l V T n nk):∀(ps:List (ByteArray×Bool)) (aT:List dj),iX G V ps aT->jt U.af l ps aT
 | [],[],_=>trivial
 | p::ps,.mx r::aT,h=>⟨⟨h.1.1,hS.qP r h.1.2⟩,Sc.jt hS ps aT h.2⟩
 | p::ps,.ex e::aT,h=>⟨⟨h.1.1,hS.gg 2 e h.1.2⟩,Sc.jt hS ps aT h.2⟩
 | [],_::_,h=>h.elim
 | _::_,[],h=>h.elim
theorem l8{M:List bL}{l:List dQ}:∀{ps:List (ByteArray×Bool)} {aT:List dj},jt M l ps aT->ps.length=aT.length
 | [],[],_=>rfl
 | _::ps,.mx _::aT,h=>by simp[l8 h.2]
 | _::ps,.ex _::aT,h=>by simp[l8 h.2]
 | [],_::_,h=>h.elim
 | _::_,[],h=>h.elim
theorem nB{M:List bL}{l:List dQ}:∀{ps:List (ByteArray×Bool)} {aT:List dj},jt M l ps aT->∀{k:Nat} {q:ByteArray×Bool} {a:dj},ps[k]?=some q->aT[k]?=some a->
  (∃r,a=.mx r/\q.2=true/\qP M l r)\/(∃e,a=.ex e/\q.2=false/\gg l e)
 | [],[],_,k,q,a,h,_=>by simp at h
 | p::ps,.mx r::aT,h,0,q,a,ac,ax=>by
  simp at ac ax;subst ac ax
  exact .inl ⟨r,rfl,h.1.1,h.1.2⟩
 | p::ps,.ex e::aT,h,0,q,a,ac,ax=>by
  simp at ac ax;subst ac ax
  exact .inr ⟨e,rfl,h.1.1,h.1.2⟩
 | p::ps,.mx r::aT,h,k+1,q,a,ac,ax=>nB h.2 (by simpa using ac) (by simpa using ax)
 | p::ps,.ex e::aT,h,k+1,q,a,ac,ax=>nB h.2 (by simpa using ac) (by simpa using ax)
 | [],_::_,h,_,_,_,_,_=>h.elim
 | _::_,[],h,_,_,_,_,_=>h.elim
theorem h9(l:List dQ)(aT:List dj)(a:dj):bS l (aT++[a])=bS l aT++bS l [a]/\cB l (aT++[a])=cB l aT++cB l [a]:=by
 induction aT with
 | nil=>exact⟨rfl,rfl⟩
 | cons x aT aq=>cases x<;>simp[bS,cB,aq.1,aq.2]
end Go.Proofs.YtflecliffjbleaaGreat

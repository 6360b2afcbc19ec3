/- Part 25 of the proof. No condition of its own. -/
import Derived.Test.YtflecliffjbleaaGreatQ24
namespace Go.Proofs.YtflecliffjbleaaGreat
open Go.RowKit Go.Proofs.Tryz
set_option maxRecDepth 1000000
set_option maxHeartbeats 25600000
set_option linter.unusedVariables false
variable{g:Nat}{F:Nat->Bool}{p:Prop}{w:World}
def cx(f:Nat->Bool):Array Value:=#[.bool (f 0),.bool (f 1),.bool (f 2),.bool (f 3),.bool (f 4),.bool (f 5),.bool (f 6),.bool (f 7),.bool (f 8),.bool (f 9),.bool (f 10),.bool (f 11),.bool (f 12),.bool (f 13),.bool (f 14),.bool (f 15),.bool (f 16),.bool (f 17),.bool (f 18),.bool (f 19),.bool (f 20),.bool (f 21),.bool (f 22),.bool (f 23),.bool (f 24),.bool (f 25),.bool (f 26),.bool (f 27),.bool (f 28),.bool (f 29),.bool (f 30),.bool (f 31)]
theorem h4(f:Nat->Bool):(cx f).toList=(List.range 32).map λi=>.bool (f i):=rfl
theorem oR(f:Nat->Bool){k:Nat}(h:k<32):(cx f)[k]?=some (.bool (f k)):=by
 rw[<-Array.getElem?_toList,h4,List.getElem?_map,List.getElem?_range h];rfl
theorem tQ(f:Nat->Bool)(k:Nat)(b:Bool):(cx f).setIfInBounds k (.bool b)=cx λi=>if i=k then b else f i:=by
 refine Array.ext' ?_;rw[Array.toList_setIfInBounds,h4,h4];refine List.ext_getElem? λi=>?_;rw[List.getElem?_set,List.getElem?_map,List.getElem?_map];by_cases ak:i<32
 .rw[List.getElem?_range ak];by_cases ai:k=i
  .subst ai;simp[ak]
  .simp[ai,Ne.symm ai]
 .rw[List.getElem?_eq_none (by simpa using ak)];simp;omega
theorem kE{f g:Nat->Bool}:cx f=cx g↔∀i,i<32->f i=g i:=by
 constructor
 .intro h i ak;have ae:=oR f ak;rw[h,oR g ak] at ae;injection ae with ae;injection ae with ae;exact ae.symm
 .intro h;refine Array.ext' ?_;rw[h4,h4];refine List.map_congr_left λi ak=>?_;rw[h i (List.mem_range.1 ak)]
section
variable {l:List Int} {f:Nat->Bool} {k:Nat} {x:Int} {b:Bool}
theorem HE(h:l[k]?=some x):nI l (k:Int)=x:=by
 unfold nI;rw[if_neg ab,Lw,List.getD_eq_getElem?_getD,h];rfl
theorem FE(h:l[k]?=some x):jJ l f k=(f k && decide (0<=x) && f x.toNat):=by
 unfold jJ;rw[HE h,decide_eq_true (List.getElem?_eq_some_iff.1 h).1,Bool.true_and]
theorem uL(h:jJ l f k=b):(cx λi=>if i=k then b else decide (i<k) && jJ l f i)=cx λi=>decide (i<k+1) && jJ l f i:=by
 rw[kE];intro i _;by_cases ak:i=k
 .subst ak;simp[h]
 .simp only[if_neg ak];congr 1
  simp;omega
theorem uK(h:jJ l f k=false):(cx λi=>decide (i<k) && jJ l f i)=cx λi=>decide (i<k+1) && jJ l f i:=by
 rw[<-uL h,kE];intro i _;by_cases ak:i=k
 .subst ak;simp
 .simp[if_neg ak]
theorem FF(h:l.length=k):(cx λi=>decide (i<k) && jJ l f i)=cx (jJ l f):=by
 rw[kE];intro i _;unfold jJ;rw[h];by_cases ak:i<k<;>simp[ak]
theorem jw(h:an w g 87 (cx f))(ai:k<32):w.cell? ⟨g,k,none⟩=some (.bool (f k)):=(h.two.1 k).trans (oR f ai)
end
theorem an.setRow{w:World}{g:Nat}{t:TypeId}{cs:Array Value}(h:an w g t cs)(vs:Array Value):an (w.setRow g vs) g t vs:=by
 unfold an at h ⊢;simp[World.setRow,Array.getElem?_modify,h]
theorem Fr.setRow{M:Nat->Prop}{S w:World}{g:Nat}(h:Fr M S w)(aK:M g\/S.heap.size<=g)(vs:Array Value):Fr M S (w.setRow g vs) where
 os:=h.os
 tape:=h.tape
 output:=h.output
 size:=by simpa[World.setRow] using h.size
 block k ai hm:=by
  have a6:g≠k:=λe=>by
   subst e;rcases aK with aK|aK
   .exact hm aK
   .omega
  simp only[World.setRow,Array.getElem?_modify,if_neg a6];exact h.block k ai hm
theorem tP:∀v∈(cx F).toList,v.oneCell'=true:=λv bD=>by
 rw[h4] at bD;obtain⟨i,_,rfl⟩:=Lz.1 bD;rfl
theorem tq{f:Nat->Bool}(h:an w g 87 (cx f))(F:Nat->Bool):(storeCells ⟨g,0,none⟩ (cx F).toList).run prog w=.ok () (w.setRow g (cx F)):=by
 rw[run_storeCells_from g 87 _ 0 _ w h (by simp[cx]) tP];simp
theorem wX(w:World)(c aA:Array Value)(t:TypeId):(w.alloc (.cells c t)).setRow w.heap.size aA=w.alloc (.cells aA t):=by
 unfold World.setRow World.alloc;congr 1
 refine Array.ext_getElem? λi=>?_;rw[Array.getElem?_modify,Array.getElem?_push,Array.getElem?_push];by_cases h:w.heap.size=i
 .subst h;simp
 .rw[if_neg h];simp[Ne.symm h]
theorem wW(w:World)(z:Array Value)(ba:z.size=32)(F:Nat->Bool):(storeCells ⟨w.heap.size,0,none⟩ (cx F).toList).run prog (w.alloc (.cells z 87))=.ok () (w.alloc (.cells (cx F) 87)):=by
 rw[run_storeCells_from w.heap.size 87 _ 0 z _ (heap_alloc_new _ _) (by simp[cx,ba]) tP];simp[wX]
theorem uS(w:World)(F:Nat->Bool):(storeCells ⟨w.heap.size,0,none⟩ (cx F).toList).run prog (w.alloc (.cells #[.bool false,.bool false,.bool false,.bool false,.bool false,.bool false,.bool false,.bool false,.bool false,.bool false,.bool false,.bool false,.bool false,.bool false,.bool false,.bool false,.bool false,.bool false,.bool false,.bool false,.bool false,.bool false,.bool false,.bool false,.bool false,.bool false,.bool false,.bool false,.bool false,.bool false,.bool false,.bool false] 87))=.ok () (w.alloc (.cells (cx F) 87)):=wW w _ rfl F
theorem lT(A:LP)(n c:Nat)(l:List Int)(f:Nat->Bool)(w:World)(h:cK (EF b5) 1 w w.heap.size A n l)(hl:cD l)(hn:n<=32) :
  Calls prog 35 #[.slice A n c,.agg (cx f)] w λe ac=>e=.returned (.agg (cx (jJ l f)))/\Ext w ac:=by
 have hlen:l.length=n:=by have:=h.1;omega
 have cr:=aL hl hlen h;clear hl hlen h;unfold cx;go_enter func35,ntmps35;go_upto_region 2 with(fail);generalize be:World.alloc _ _=W;have aE:=nt be;have bW:=lL be;have bK:an W (w.heap.size+1) 87 (cx λ_=>false):=jv be;have aY:an W (w.heap.size+2) 87 (cx λ_=>false):=lM be;have cE:=aY.lt;have aH:=dq aE bW bK aY (cr.2.2.cS (Fr.ext aE) aE.size);clear be aE bW bK aY;go_wp2_with(fail);go_loopw [10] (λce wr=>∃k:Nat,ce=.int .i64 k/\k<=n/\an wr (w.heap.size+2) 87 (cx λi=>decide (i<k) && jJ l f i)/\Fr (λb=>b=w.heap.size+2) W wr) (λce _=>n - (intOf ce).toNat)
 case atStart=>exact⟨0,rfl,ab,by simpa using aH.2.2.2.1,LL⟩
 case round=>
  obtain⟨k,rfl,ai,aN,hF⟩:=hrel;have hs:=hF.size;have bx:=ah aN hF;clear aN hF;by_cases aw:k<n
  .have T:(k:Int)<(n:Int):=ab;have S:(k:Int)<32:=ab;obtain⟨b,o,x,rfl,al,hx,c0⟩:=cr.2.2.int aw;have aO:b<wr.heap.size:=by have:=aH.1.size;omega
   have ax:=cr.1 x (Le hx);rw[cr.2.1] at ax;have e0:=((Fr.cell (j:=o+k) aH.1 al (λh=>h)).trans c0)
   have e1:=((bx.2.cell (j:=o+k) (aC aH.1.size) ab).trans e0)
   have b9:=jw (k:=k) (aH.2.1.on bx.2 ab) ab;have b8:w.heap.size<wr.heap.size:=ab;have g:=ad (FE (f:=f) hx);clear c0 e0 hx al
   cases hfk:f k with
   | false=>
    rw[hfk] at b9;have bB:=ad (uK (l:=l) (f:=f) (k:=k) (by rw[g.o,hfk];rfl));clear hfk g
    exact GJ
   | true=>
    rw[hfk] at b9;by_cases U:0<=x
    case neg=>
     have q1:decide (x>=0)=false:=by simp;omega
     have bB:=ad (uK (l:=l) (f:=f) (k:=k) (by rw[g.o,decide_eq_false U];simp));clear hfk g U;exact GJ
    have q1:decide (x>=0)=true:=by simpa using U
    have r:x<32:=ab;obtain⟨j,rfl⟩:=Lg U;have g2:=jw (k:=j) (aH.2.1.on bx.2 ab) ab;have o1:=jw (k:=k) bx.1 ab;have aa:=bx.1.two.2.1;have bB:=ad (uL (l:=l) (f:=f) (k:=k) (b:=f j) (by rw[g.o,hfk,decide_eq_true U];simp));have bj:=bx.1.lt;clear hfk g U ax;generalize f j=s at *;go_upto_region 7 with(fail);generalize hX:World.setCell _ _ _=X;have bw:an X (w.heap.size+2) 87 (cx λi=>decide (i<k+1) && jJ l f i):=by rw[<-hX,<-bB.o,<-tQ];exact bx.1.aD k _
    have bO:Fr (λb=>b=w.heap.size+2) W X:=hX▸bx.2.setCell (.inl rfl) _;exact GF
  .have T:¬(k:Int)<(n:Int):=ab;have cJ:=bx.1;rw[FF (aC cr.2.1)] at cJ;obtain⟨F,hF⟩:∃F,F=jJ l f:=⟨_,rfl⟩
   rw[<-hF] at cJ;have m:=ad hF;have bK:=aH.2.2.1.on bx.2 ab;have R:Ext w wr:=Fr.low (M:=λb=>b=w.heap.size+2) (Fr.trans (Fr.mono aH.1 λ_ h=>h.elim) bx.2) λb O=>ab;have a8:=ah bK R;clear bK R bx hF;have bk:=tq a8.1 F;go_wp2_with(refine wpList_load_row rfl 87 _ rfl (w.heap.size+2) rfl 87 (cx F) (0,0) _ cJ Tryz.underlying87 rfl (by kernel_rfl) ?_);generalize hX:World.setRow _ _ _=Z;have bH:an Z (w.heap.size+1) 87 (cx F):=hX▸a8.1.setRow _;have bn:Ext w Z:=hX▸a8.2.setRow (.inr ab) _;refine⟨rfl,.agg (cx F),?_,?_⟩
   .exact results_cell_row rfl _ _ (w.heap.size+1) 87 (cx F) (0,0) _ rfl bH Tryz.underlying87 rfl (by kernel_rfl)
   have hF:=m.o;subst hF;exact⟨rfl,bn⟩
theorem yf(F:Nat->Bool){j:Nat}(bd:j<32)(w:World):(Instr.index 87 (.agg (cx F)) (.int .i64 (j:Int))).run prog w=.ok (.bool (F j)) w:=by
 simp[Instr.index,run_underlying Tryz.underlying87,asIntOf,go_sem,bd,oR F bd]
theorem zb(w:World)(F G:Nat->Bool):∃r:Bool,(Op.equalIn 10000 87 (.agg (cx F)) (.agg (cx G))).run prog w=.ok r w/\(r=true↔∀i,i<32->F i=G i):=by
 have ai:∀F:Nat->Bool,prog.keyLits 5 87 (Value.agg (cx F)).cells.toList=some ((List.range 32).map λi=>Lit.bool (F i)):=λF=>by kernel_rfl
 obtain⟨r,aQ,n⟩:=run_equalIn_deep (P:=prog) 9998 2 87 (by kernel_rfl) w 5 5 (.agg (cx F)) (.agg (cx G)) _ _ (by kernel_rfl) (by kernel_rfl) (ai F) (ai G);refine⟨r,aQ,n.trans ?_⟩;rw[List.map_inj_left];constructor
 .intro h i ak;have:=h i (List.mem_range.2 ak);injection this
 .intro h i ak;rw[h i (List.mem_range.1 ak)]
def Ks:Option Value->Bool
 | some (.bool b)=>b
 | _=>false
def Es(w:World)(g:Nat):Nat:=(List.range 32).countP λi=>Ks (w.cell? ⟨g,i,none⟩)
theorem vf{f:Nat->Bool}(h:an w g 87 (cx f)):Es w g=(List.range 32).countP f:=by
 unfold Es;refine List.countP_congr λi ak=>?_;rw[jw h (List.mem_range.1 ak)];rfl
theorem yy{f g:Nat->Bool}(hs:∀i,g i=true->f i=true){i:Nat}(ak:i<32)(ae:f i=true)(aD:g i=false):(List.range 32).countP g<(List.range 32).countP f:=by
 have h:(List.range 32).countP f=(List.range 32).countP g+(List.range 32).countP λi=>f i && !g i:=by
  generalize List.range 32=l
  induction l with
  | nil=>rfl
  | cons x l ao=>
   simp only[List.countP_cons,ao];cases J:f x<;>cases aK:g x<;>simp
   .have:=hs x aK;rw[J] at this;cases this
   .omega
   .omega
 have:0<(List.range 32).countP λi=>f i && !g i:=List.countP_pos_iff.2 ⟨i,List.mem_range.2 ak,by simp[ae,aD]⟩;omega
def iH(F:Nat->Bool)(k:Nat):List Int:=((List.range k).filter F).map Int.ofNat
theorem y3{k:Nat}:(iH F k).length<=k:=by
 unfold iH;rw[Lf];refine Ls (List.length_filter_le _ _) ?_;simp
theorem x8{k:Nat}(h:F k=true):iH F (k+1)=iH F k++[(k:Int)]:=by
 unfold iH;rw[List.range_succ,List.filter_append,Li];simp[h]
theorem tg{k:Nat}(h:F k=false):iH F (k+1)=iH F k:=by
 unfold iH;rw[List.range_succ,List.filter_append];simp[h]
theorem wJ{l:List Int}(hn:l.length<=32)(hF:∀i,i<32->(F i=true↔(i:Int)∈gx l))(hl:cD l):iH F 32=gx l:=by
 unfold iH;have ae:∀k,k<=32->k<=l.length->((List.range k).filter F).map Int.ofNat=jx l k:=by
  intro k
  induction k with
  | zero=>intro _ _;rfl
  | succ k ao=>
   intro I ai;have ao:=ao ab ab;have hm:=hF k ab;rw[ez hl] at hm;by_cases aW:0<=cZ l (l.length+1) (k:Int)
   .have ht:F k=true:=hm.2 ⟨ab,ab,pG hl ab (dB aW ab)⟩;rw[xQ aW,<-ao];exact x8 ht
   .have ht:F k=false:=by
     cases J:F k with
     | false=>rfl
     | true=>exact absurd ((hm.1 J).2.2 _) aW
    rw[xP aW,<-ao];exact tg ht
 have aD:∀m,l.length+m<=32->((List.range (l.length+m)).filter F).map Int.ofNat=jx l l.length:=by
  intro m
  induction m with
  | zero=>intro h;exact ae _ h (Lb _)
  | succ m ao=>
   intro h;have ht:F (l.length+m)=false:=by
    cases J:F (l.length+m) with
    | false=>rfl
    | true=>
     have:=(ez hl).1 ((hF _ ab).1 J);omega
   rw[<-ao ab];exact tg (k:=l.length+m) ht
 have:=aD (32 - l.length) ab;rw[show l.length+(32 - l.length)=32 by omega] at this;exact this
namespace BW
theorem Ak(h:p:=by
 go_upto_region 3 with(fail);generalize hV:World.alloc _ _=V;have a2:=bb hV;have ba:an V aP.heap.size 87 (cx λ_=>false):=aT hV;have cW:=ba.lt;have ch:=ah a2 ba;clear hV a2 ba;have R:min (hn:Int) 32=(hn:Int):=ab;go_wp2_with(fail);clear R;go_loopw [18] (λce wr=>∃k:Nat,ce=.int .i64 k/\k<=hn/\an wr aP.heap.size 87 (cx λi=>decide (i<k))/\Fr (λb=>b=aP.heap.size) V wr) (λce _=>hn - (intOf ce).toNat)
 case atStart=>exact⟨0,rfl,ab,by simpa using ch.2,LL⟩
 case round=>
  obtain⟨k,rfl,ai,aN,hF⟩:=hrel;have bx:=ah aN hF;have hs:=hF.size;clear aN hF;by_cases aw:k<hn
  .have T:(k:Int)<(hn:Int):=ab;have S:(k:Int)<32:=ab;have o1:=jw (k:=k) bx.1 ab;have aa:=bx.1.two.2.1;have bj:=bx.1.lt;go_upto_region 7 with(fail);generalize hX:World.setCell _ _ _=X;have bw:an X aP.heap.size 87 (cx λi=>decide (i<k+1)):=by
    have he:(cx λi=>decide (i<k+1))=cx λi=>if i=k then true else decide (i<k):=by
     rw[kE];intro i _;by_cases ak:i=k
     .subst ak;simp
     .simp only[if_neg ak];congr 1
      simp;omega
    rw[<-hX,he,<-tQ];exact bx.1.aD k _
   have bO:Fr (λb=>b=aP.heap.size) V X:=hX▸bx.2.setCell (.inl rfl) _;exact GF
  .have T:¬(k:Int)<(hn:Int):=ab;have ba:=bx.1;have h0:(cx λi=>decide (i<k))=cx (cT l 0):=by
    rw[kE];intro i _;have:=bN.1;unfold cT;rw[show cZ l 0 (i:Int)=(i:Int) from rfl,decide_eq_true (show 0<=(i:Int) by omega),Bool.and_true];congr 1
    simp;omega
   rw[h0] at ba;clear h0 aw;have z:Ext aP wr:=Fr.low (M:=λb=>b=aP.heap.size) (Fr.trans (Fr.mono ch.1 λ_ h=>h.elim) bx.2) λb O=>ab;have aZ:=aL z ba (H1.1.cS (Fr.ext z) z.size);have eT:=z.size;have Q:=bx.2;clear z ba bx;have ba:=aZ.2.1;go_wp2_with(refine wpList_load_row rfl 87 _ rfl aP.heap.size rfl 87 (cx (cT l 0)) (0,0) _ ba Tryz.underlying87 rfl (by kernel_rfl) ?_);refine(lT A hn c l (cT l 0) wr aZ.2.2 bN.2 E).mono ?_;rintro e aV ⟨rfl,a2⟩;rw[show jJ l (cT l 0)=cT l 1 from funext λt=>m6 bN.2 0 t];have a7:=ah a2 (ba.aj a2);have b8:=ad (Q.trans (a2.mono λ_ h=>h.elim));clear ba a2 Q;have bv:=a7.1.size;have bk:=uS aV (cT l 1);go_upto_region 9 with(fail);generalize hX:World.alloc _ _=X;have bu:=bb hX;have K:=aT hX;have aR:=aL bu (a7.2.aj bu) K;have bI:=bu.size;clear hX bu K bk;go_loopw [8] (λer bh=>∃(m H:Nat),er=.pointer (some ⟨H,0,none⟩)/\an bh H 87 (cx (cT l (m+1)))/\an bh aP.heap.size 87 (cx (cT l m))/\aP.heap.size<H/\Fr (λb=>b=aP.heap.size) V bh) (λ_ bh=>Es bh aP.heap.size)
   case atStart=>exact⟨0,aV.heap.size,rfl,aR.2.2,aR.2.1,ab,b8.trans (aR.1.mono λ_ h=>h.elim)⟩
   case round=>
    obtain⟨m,H,rfl,cg,ba,Z,hF⟩:=hrel;have y:=cg.lt;obtain⟨r,aQ,n⟩:=zb wr (cT l (m+1)) (cT l m);have ct:=ad n;have bU:=aL cg ba hF;have ac:=hF.size;clear n hF
    cases r with
    | true=>
     go_wp2_with(first
      | refine wpList_load_row rfl 87 _ rfl H rfl 87 (cx (cT l (m+1))) (0,0) _ cg Tryz.underlying87 rfl (by kernel_rfl) ?_
      | refine wpList_load_row rfl 87 _ rfl aP.heap.size rfl 87 (cx (cT l m)) (0,0) _ ba Tryz.underlying87 rfl (by kernel_rfl) ?_)
     clear aQ;have hP:∀i,i<32->(cT l m i=true↔(i:Int)∈gx l):=λi ak=>by
      have bk:=ct.1 (by simp);rcases Nat.lt_or_ge i l.length with ae|ae
      .exact zd bN.2 (λt ht=>bk t (aC bN.1)) ae
      .rw[ez bN.2];unfold cT;rw[decide_eq_false ab];constructor
       .intro h;cases h
       .intro h;omega
     have b0:=ad (wJ (aC bN.1) hP bN.2);have U:=ad (show Ext aP wr from Fr.low (M:=λb=>b=aP.heap.size) (Fr.trans (Fr.mono ch.1 λ_ h=>h.elim) bU.2.2) λb O=>ab);clear hP ct cg ba;generalize cT l m=F at *;go_loopw [9,36] (λv ce bn=>∃j:Nat,ce=.int .i64 j/\j<=32/\bn.ownsRow wr.heap.size 3 1 v (iH F j).length ((iH F j).flatMap b5)/\Below wr.heap.size wr bn) (λ_ ce _=>32 - (intOf ce).toNat)
     case atStart=>exact⟨0,rfl,ab,World.ownsRow_nil _ _ _ _,Below.refl _ _⟩
     case round=>
      obtain⟨j,rfl,bd,ax,O⟩:=hrel;have b4:=O.size;have cu:=y3 (F:=F) (k:=j);have L:=aL (x8 (F:=F) (k:=j)) (tg (F:=F) (k:=j)) (λh:j=32=>show iH F j=iH F 32 by rw[h]);generalize iH F j=D at *;have bq:=ah ax O;by_cases aw:j<32
      .have T:(j:Int)<32:=ab;cases hFj:F j
       case true=>
        have bB:=ad (L.1 hFj);have g:=λW=>(yf F aw W).trans (by rw[hFj]);clear hFj L;go_wp2_with(at_builtin;refine bV _ de (by rfl) (.tmp 41) (.tmp 43) (by rfl) _ _ _ _ _ (by rfl) ax (by rfl) (by rfl) (g5 _ _) ab ab b4 ?_;intro v1 cz af aO cd);go_roundw
        case rel=>exact⟨j+1,by go_num,ab,by rw[bB.o,Ld,ey];exact af,dk O ax aO (Lb _) b4⟩
        case measure=>exact az
       case false=>
        have bB:=ad (L.2.1 hFj);have g:=λW=>(yf F aw W).trans (by rw[hFj]);clear hFj L ax O;go_wp2_with(fail);go_roundw
        case rel=>exact⟨j+1,by go_num,ab,by rw[bB.o];exact bq.1,bq.2⟩
        case measure=>exact az
      .have T:¬(j:Int)<32:=ab;have cJ:=ad (L.2.2 ab);clear aw L ax O;go_wp2_with(fail);go_ret;rw[<-b0.o,<-cJ.o]
       exact eO.own rfl bq.1 (H1.2.trans (U.trans (Fr.of bq.2)))
    | false=>
     go_upto_region 11 with(first
      | refine wpList_load_row rfl 87 _ rfl H rfl 87 (cx (cT l (m+1))) (0,0) _ cg Tryz.underlying87 rfl (by kernel_rfl) ?_
      | refine wpList_load_row rfl 87 _ rfl aP.heap.size rfl 87 (cx (cT l m)) (0,0) _ ba Tryz.underlying87 rfl (by kernel_rfl) ?_)
     clear aQ;have bk:=tq ba (cT l (m+1))
     go_upto_region 12 with(first
      | refine wpList_load_row rfl 87 _ rfl H rfl 87 (cx (cT l (m+1))) (0,0) _ cg Tryz.underlying87 rfl (by kernel_rfl) ?_
      | refine wpList_load_row rfl 87 _ rfl aP.heap.size rfl 87 (cx (cT l m)) (0,0) _ ba Tryz.underlying87 rfl (by kernel_rfl) ?_)
     clear bk;generalize hX:World.setRow _ _ _=X;have J:an X aP.heap.size 87 (cx (cT l (m+1))):=hX▸ba.setRow _;have bO:Fr (λb=>b=aP.heap.size) wr X:=hX▸(Fr.refl (λb=>b=aP.heap.size) wr).setRow (.inl rfl) _;have I:=cg.on bO ab;have bI:=bO.size;have bk:=uS X (cT l (m+1));clear hX cg ba;go_upto_region 10 with(refine wpList_load_row rfl 87 _ rfl H rfl 87 (cx (cT l (m+1))) (0,0) _ I Tryz.underlying87 rfl (by kernel_rfl) ?_);clear bk I;generalize b7:World.alloc _ _=Y;have bA:=bb b7;have bz:=aT b7;have o:=J.aj bA;have G:=(bU.2.2.trans bO).trans (bA.mono λ_ h=>h.elim);have P:Ext aP Y:=Fr.low (M:=λb=>b=aP.heap.size) (Fr.trans (Fr.mono ch.1 λ_ h=>h.elim) G) λb O=>ab;have bP:=bG bz o G P;clear b7 bA bz J G bO P;go_wp2_with(refine wpList_load_row rfl 87 _ rfl aP.heap.size rfl 87 (cx (cT l (m+1))) (0,0) _ o Tryz.underlying87 rfl (by kernel_rfl) ?_);refine(lT A hn c l (cT l (m+1)) Y (H1.1.cS (Fr.ext bP.2.2.2) bP.2.2.2.size) bN.2 E).mono ?_;rintro e b3 ⟨rfl,bu⟩;rw[show jJ l (cT l (m+1))=cT l (m+1+1) from funext λt=>m6 bN.2 (m+1) t];have bW:=bP.1.aj bu;have bk:=tq bW (cT l (m+1+1));have bX:=aL bW (bP.2.1.aj bu) (bP.2.2.1.trans (bu.mono λ_ h=>h.elim));have cC:=bu.size;clear bW bu o;go_wp2_with(fail);clear bk;have dD:an (b3.setRow X.heap.size (cx (cT l (m+1+1)))) aP.heap.size 87 (cx (cT l (m+1))):=bX.2.1.on (M:=λb=>b=X.heap.size) ((Fr.refl (λb=>b=X.heap.size) b3).setRow (.inl rfl) _) ab;have cj:=ad dD;clear dD;go_roundw
     case rel=>exact⟨m+1,X.heap.size,rfl,bX.1.setRow _,cj.o,ab,bX.2.2.setRow (.inr ab) _⟩
     case measure=>
      rw[vf cj.o,vf bU.2.1];have a6:∃i,i<32/\cT l (m+1) i≠cT l m i:=Classical.byContradiction λh=>by
       have:=ct.2 λi ak=>Classical.byContradiction λbr=>h ⟨i,ak,br⟩;cases this
      obtain⟨i,ak,br⟩:=a6;have ae:cT l m i=true:=by
       cases hm:cT l m i with
       | true=>rfl
       | false=>
        cases ck:cT l (m+1) i with
        | false=>rw[hm,ck] at br;exact absurd rfl br
        | true=>rw[uU ck] at hm;cases hm
      exact yy (λi=>uU) ak ae (by cases ck:cT l (m+1) i with
       | false=>rfl
       | true=>rw[ck,ae] at br;exact absurd rfl br)
 ):p:=h
theorem kA(h:p:=by
 exact Aj
 ):p:=h
theorem ky(h:p:=by
 go_enter func12,ntmps12;exact kz
 ):p:=h
end BW
open BW in
theorem mdead(u:av)(s:ag)(N:Nat)(w:World)(p:UV)(q:SV)(h:jT u s N w p q) :
  Calls prog 12 #[.agg (p.val u),.agg (q.val s)] w (eO w (gx (aI u s))):=by
 exact kx
section
variable {U:hi} {G:Env} {l:List dG} {V T:LQ} {n nk:Int}
theorem Sc.fO(hS:Sc U G l V T n nk):∀(d:Nat) (x:VE),x.src V d->fO l x
 | d,.num k,h=>trivial
 | d,.gT s,h=>by
  have q:s∈V:=by cases d<;>exact h
  obtain⟨e,he,ai⟩:=hS.vars s q
  exact⟨e,he,ai.imp (λh=>h.1) (λh=>h.1)⟩
 | d,.loc _,h=>by cases d<;>exact h.elim
 | d,.iz _,h=>by cases d<;>exact h.elim
 | 0,.un _ _,h=>h.elim
 | 0,.bin _ _ _,h=>h.elim
 | d+1,.un op x,h=>⟨h.1,Sc.fO hS d x h.2⟩
 | d+1,.bin op x y,h=>⟨h.1,Sc.fO hS d x h.2.1,Sc.fO hS d y h.2.2⟩
theorem Sc.qL(hS:Sc U G l V T n nk)(r:eN)(h:rf G V r):qL U.ae l r:=by
 rcases h with⟨m,hm,hn,ae,aD⟩|⟨hp,ak⟩
 .obtain⟨e,he,ai,h0,hu⟩:=hS.IX m hm;rw[hn] at he;exact⟨e,he,.inr ⟨ai,m,h0,hu,λhs=>by obtain⟨x,hx,av⟩:=ae hs;exact⟨x,hx,hS.fO 2 x av⟩,aD⟩⟩
 .obtain⟨e,he,ai,_,_⟩:=hS.DV _ hp;exact⟨e,he,.inl ⟨ai,ak⟩⟩
end
def vq(F:List aA)(G:Env)(l:List dG):Prop:=∀s ps,(s,ps)∈G.funcs->∃(e:dG) (f:aA),dv l s=some e/\e.kind=3/\0<=e.n/\F[e.n.toNat]?=some f/\f.params=ps
theorem vq.app{F:List aA}{G:Env}{l:List dG}(h:vq F G l)(x:dG):vq F G (l++[x]):=λs ps hs=>by
 obtain⟨e,f,he,r⟩:=h s ps hs;exact⟨e,f,jE he,r⟩
theorem Dq{p:bD}(hp:oK p){f:aA}(J:f∈p.funcs):vq p.funcs (fo p f) (bc p++dM f.params 0 0):=by
 intro s ps hs;have aS:((bc p++dM f.params 0 0).map (·.name)).Nodup:=by
  rw[Li,fM,fJ];exact(hp.funcs f J).fresh
 obtain⟨g,aK,bJ⟩:=Lz.1 hs;injection bJ with aO al;subst aO al;obtain⟨i,ak⟩:=List.getElem?_of_mem aK;have:=lq aS (Lk.2 (.inl (by unfold bc;exact Lk.2 (.inr (h5 (·.name) 3 p.funcs 0 i g ak)))));refine⟨_,g,this,rfl,by show (0:Int)<=((0+i:Nat):Int);omega,?_,rfl⟩;show p.funcs[(((0+i:Nat):Int)).toNat]?=some g
 rw[Lw,Lt];exact ak
def jj(M:List bF)(l:List dG):List (ByteArray×Bool)->List dd->Prop
 | [],[]=>True
 | p::ps,.mx r::aI=>(p.2=true/\qL M l r)/\jj M l ps aI
 | p::ps,.ex e::aI=>(p.2=false/\fO l e)/\jj M l ps aI
 | _,_=>False
theorem Sc.jj{U:hi}{G:Env}{l:List dG}{V T:LQ}{n nk:Int}(hS:Sc U G l V T n nk):∀(ps:List (ByteArray×Bool)) (aI:List dd),h2 G V ps aI->jj U.ae l ps aI
 | [],[],_=>trivial
 | p::ps,.mx r::aI,h=>⟨⟨h.1.1,hS.qL r h.1.2⟩,Sc.jj hS ps aI h.2⟩
 | p::ps,.ex e::aI,h=>⟨⟨h.1.1,hS.fO 2 e h.1.2⟩,Sc.jj hS ps aI h.2⟩
 | [],_::_,h=>h.elim
 | _::_,[],h=>h.elim
theorem l6{M:List bF}{l:List dG}:∀{ps:List (ByteArray×Bool)} {aI:List dd},jj M l ps aI->ps.length=aI.length
 | [],[],_=>rfl
 | _::ps,.mx _::aI,h=>by simp[l6 h.2]
 | _::ps,.ex _::aI,h=>by simp[l6 h.2]
 | [],_::_,h=>h.elim
 | _::_,[],h=>h.elim
theorem nv{M:List bF}{l:List dG}:∀{ps:List (ByteArray×Bool)} {aI:List dd},jj M l ps aI->∀{k:Nat} {q:ByteArray×Bool} {a:dd},ps[k]?=some q->aI[k]?=some a->
  (∃r,a=.mx r/\q.2=true/\qL M l r)\/(∃e,a=.ex e/\q.2=false/\fO l e)
 | [],[],_,k,q,a,h,_=>by simp at h
 | p::ps,.mx r::aI,h,0,q,a,ae,aD=>by
  simp at ae aD;subst ae aD
  exact .inl ⟨r,rfl,h.1.1,h.1.2⟩
 | p::ps,.ex e::aI,h,0,q,a,ae,aD=>by
  simp at ae aD;subst ae aD
  exact .inr ⟨e,rfl,h.1.1,h.1.2⟩
 | p::ps,.mx r::aI,h,k+1,q,a,ae,aD=>nv h.2 (by simpa using ae) (by simpa using aD)
 | p::ps,.ex e::aI,h,k+1,q,a,ae,aD=>nv h.2 (by simpa using ae) (by simpa using aD)
 | [],_::_,h,_,_,_,_,_=>h.elim
 | _::_,[],h,_,_,_,_,_=>h.elim
theorem hO(l:List dG)(aI:List dd)(a:dd):bL l (aI++[a])=bL l aI++bL l [a]/\cw l (aI++[a])=cw l aI++cw l [a]:=by
 induction aI with
 | nil=>exact⟨rfl,rfl⟩
 | cons x aI ao=>cases x<;>simp[bL,cw,ao.1,ao.2]
end Go.Proofs.YtflecliffjbleaaGreat

/- SameCode: anq7 instruction is told equal to itself, however it lies in memory. Conditions: fx. -/
import Derived.Test.YtglbpimocmhojaaGreatESamE
import Derived.Test.YtglbpimocmhojaaGreatQ15
namespace Go.Proofs.YtglbpimocmhojaaGreat
open Go.RowKit
set_option maxRecDepth 1000000
set_option linter.unusedVariables false
theorem sexO_any{o:Option VE}{w:World}{eo en eo' en':Int}{es es':ByteArray}{A B:Option Addr}{n c m d:Nat}(h:(oj o).rep w (av w) [.int .i64 eo,.int .i64 en,.string es,.slice A n c])(h2q7:(oj o).rep w (av w) [.int .i64 eo',.int .i64 en',.string es',.slice B m d]) :
  eo=eo'/\en=en'/\es=es'/\∀V,Ext w V->Calls Tryz.prog 57 #[.agg #[.int .i64 eo,.int .i64 en,.string es,.slice A n c],.agg #[.int .i64 eo,.int .i64 en,.string es,.slice B m d]] V λe w'=>e=.returned (.bool true)/\Ext V w':=by
 cases o with
 | none=>
  obtain⟨A2,c2,e⟩:=fh.1 h;obtain⟨B2q7,d2,e'⟩:=fh.1 h2q7;simp only[List.cons.injEq,Value.int.injEq,Value.string.injEq,Value.slice.injEq,true_and,and_true] at e e';obtain⟨rfl,rfl,rfl,rfl,rfl,rfl⟩:=e;obtain⟨rfl,rfl,rfl,rfl,rfl,rfl⟩:=e'
  exact⟨rfl,rfl,rfl,λV hV=>sex_args 0 0 ⟨#[]⟩ [] (by simp) (by simp) V _ 0 c _ 0 d (Sl.bN _) (Sl.bN _)⟩
 | some x=>
  obtain⟨A2,n2,c2,e,_,hs⟩:=a1.1 h;obtain⟨B2q7,m2q7,d2,e',_,hs'⟩:=a1.1 h2q7;simp only[List.cons.injEq,Value.int.injEq,Value.string.injEq,Value.slice.injEq,true_and,and_true] at e e';obtain⟨rfl,rfl,rfl,rfl,rfl,rfl⟩:=e;obtain⟨rfl,rfl,rfl,rfl,rfl,rfl⟩:=e';exact⟨rfl,rfl,rfl,λV hV=>sex_any x V _ _ _ _ _ _ (hs.on (Fr.ext hV)) (hs'.on (Fr.ext hV))⟩
theorem encPz(p:bQ):(di p).sz=3:=rfl
abbrev zIq7:Array Value:=#[.int .i64 0,.int .i64 0,.bool false,.int .i64 0,.int .i64 0,.string ⟨#[]⟩,.slice none 0 0,.bool false,.int .i64 0,.slice none 0 0,.slice none 0 0,.slice none 0 0]
set_option maxRecDepth 1000000 in
set_option maxHeartbeats 6400000 in
theorem same1(x:az)(v v':IV)(gaq7 gbq7:Nat)(w:World)(hvq7:v.Ok w x)(hv':v'.Ok w x)(haq7:aq w gaq7 58 (v.val x))(hbq7:aq w gbq7 58 (v'.val x))(hiq7:x.ints.length<=200)(hkq7:x.places.length<=200) :
  Calls Tryz.prog 18 #[.slice (some ⟨gaq7,0,none⟩) 1 1,.slice (some ⟨gbq7,0,none⟩) 1 1] w λe w'=>e=.returned (.bool true)/\Ext w w':=by
 obtain⟨eo,en,es,EA,em,ec,QA,qm,qc,IA,ixq7,ic,KA,kxq7,kc⟩:=v;obtain⟨eo',en',es',EA',em',ec',QA',qm',qc',IA',ix',ic',KA',kx',kc'⟩:=v';obtain⟨h1q7,h2q7,h3q7,_,h5q7,_⟩:=hvq7;obtain⟨h1',h2',h3',_,h5',_⟩:=hv';simp only at h1q7 h2q7 h3q7 h5q7 h1' h2' h3' h5';obtain⟨rfl,rfl,rfl,hX⟩:=sexO_any h1q7 h1';obtain⟨A2,n2,c2,e,_,hp⟩:=dT.1 h2q7;obtain⟨B2q7,m2q7,d2,e',_,hp'⟩:=dT.1 h2';simp only[List.cons.injEq,Value.slice.injEq,true_and,and_true] at e e';obtain⟨rfl,rfl,rfl⟩:=e;obtain⟨rfl,rfl,rfl⟩:=e';have hPq7:∀V,Ext w V->Calls Tryz.prog 58 #[.agg #[.bool x.place.param,.int .i64 x.place.index,.slice QA qm qc],.agg #[.bool x.place.param,.int .i64 x.place.index,.slice QA' qm' qc']] V λe w'=>e=.returned (.bool true)/\Ext V w':=λV hV=>spl_any x.place V _ _ _ _ _ _ (hp.on (Fr.ext hV)) (hp'.on (Fr.ext hV));have hI:∀V,Ext w V->Calls Tryz.prog 59 #[.slice IA ixq7 ic,.slice IA' ix' ic'] V λe w'=>e=.returned (.bool true)/\Ext V w':=λV hV=>sexs_any x.ints hiq7 V _ _ _ _ _ _ (h3q7.on (Fr.ext hV)) (h3'.on (Fr.ext hV));obtain rfl:kxq7=kx':=by have:=h5q7.1;have:=h5'.1;omega
 have hkx:kxq7<=200:=by have:=h5q7.1;simp at this;omega
 have H:=ae (And.intro hX (And.intro hPq7 (And.intro hI (And.intro h5q7 (And.intro h5' (And.intro haq7 hbq7))))));have q1:(x.op != x.op)=false:=by simp
 have q2q7:(x.target != x.target)=false:=by simp
 have q3q7:(x.dg != x.dg)=false:=by simp
 have q4q7:((kxq7:Int) != (kxq7:Int))=false:=by simp
 obtain⟨a0,a0f,a0l⟩:=haq7.two;obtain⟨b0q7,b0f,b0l⟩:=hbq7.two;clear h1q7 h1' h2q7 h2' h3q7 h3' h5q7 h5' hp hp' hX hPq7 hI haq7 hbq7 hiq7 hkq7;dsimp only[IV.val] at a0 b0q7;go_enter Tryz.func18,Tryz.ntmps18;go_wp2_with(fail);clear a0 a0f a0l b0q7 b0f b0l;go_loopw [5] (λivq7 wr=>∃k:Nat,ivq7=.int .i64 k/\k<=1/\Ext w wr) (λivq7 _=>1 - (intOf ivq7).toNat)
 case atStart=>exact⟨0,rfl,ad,Fr.refl _ _⟩
 case round=>
  obtain⟨k,rfl,hkq7,hEq7⟩:=hrel;have HEq7:=ae hEq7;by_cases hlt:k<1
  .obtain rfl:k=0:=ad;obtain⟨a0,a0f,a0l⟩:=(H.o.2.2.2.2.2.1.ai hEq7).two;obtain⟨b0q7,b0f,b0l⟩:=(H.o.2.2.2.2.2.2.ai hEq7).two;have hga:¬wr.heap.size<=gaq7:=by have:=H.o.2.2.2.2.2.1.lt;have:=hEq7.size;omega
   have hgb:¬wr.heap.size<=gbq7:=by have:=H.o.2.2.2.2.2.2.lt;have:=hEq7.size;omega
   clear hEq7;go_upto_region 6 with(fail);refine qY (λb=>wr.heap.size<=b) [11] (.free 0 (.free 1 (.free 2 (.held 3 (.free 4 (.free 5 (.free 6 (.held 7 (.pick [8,9] (λi=>bif i == 8 then .pick [9] (λ_=>.pick [10] (λ_=>.pick [11] (λ_=>.stop))) else .pick [8] (λ_=>.pick [10] (λ_=>.pick [11] (λ_=>.stop))))))))))))) ?_
   iterate 3 refine tf ?_
   refine mU ?_
   iterate 3 refine tf ?_
   refine mU ?_;refine l8 (P:=?ow) (ops:=?Hq) (Q:=?Hs) (R:=?Hu) (tails:=?HE) (rest:=.pick [10] (λ_=>.pick [11] (λ_=>.stop))) (aa:=?G3)
    (C:=λ(gxq7 gyq7:Nat) WV=>Ext wr WV/\aq WV gxq7 58 zIq7/\aq WV gyq7 58 zIq7/\gxq7≠gyq7/\wr.heap.size<=gxq7/\wr.heap.size<=gyq7) (λkey=>?vY) ?vR
   case vY=>
    refine Hr (λV=>Ext wr V) (Fr.refl _ wr).drew (λU hU=>?_);have hUs:=hU.size;refine aY ?_ ?_
    ·
     refine dP ?_;refine Hr (λV=>Ext U V/\aq V U.heap.size 58 zIq7) ⟨(Fr.refl _ _).alloc _,aq.new _ _ _⟩ (λU1 h1q7=>?_);refine ao ?_;refine dP ?_;refine Hr (λV=>Ext U1 V/\aq V U1.heap.size 58 zIq7) ⟨(Fr.refl _ _).alloc _,aq.new _ _ _⟩ (λU2 h2q7=>?_);have F:Ext wr U2/\aq U2 U.heap.size 58 zIq7/\aq U2 U1.heap.size 58 zIq7/\U.heap.size≠U1.heap.size/\wr.heap.size<=U.heap.size/\wr.heap.size<=U1.heap.size:=⟨(hU.trans h1q7.1).trans h2q7.1,h1q7.2.ai h2q7.1,h2q7.2,by have:=h1q7.2.lt;omega,hUs,by have:=h1q7.2.lt;omega⟩
     clear h1q7 h2q7;revert F;generalize U.heap.size=gxq7;generalize U1.heap.size=gyq7;intro F;exact key gxq7 gyq7 U2 F
    ·
     refine dP ?_;refine Hr (λV=>Ext U V/\aq V U.heap.size 58 zIq7) ⟨(Fr.refl _ _).alloc _,aq.new _ _ _⟩ (λU1 h1q7=>?_);refine ao ?_;refine dP ?_;refine Hr (λV=>Ext U1 V/\aq V U1.heap.size 58 zIq7) ⟨(Fr.refl _ _).alloc _,aq.new _ _ _⟩ (λU2 h2q7=>?_);exact key U1.heap.size U.heap.size U2 ⟨(hU.trans h1q7.1).trans h2q7.1,h2q7.2,h1q7.2.ai h2q7.1,by have:=h1q7.2.lt;omega,by have:=h1q7.2.lt;omega,hUs⟩
   case vR=>
    rintro gxq7 gyq7 WV ⟨hE4,hBx,hBy,hne,hgx,hgy⟩;obtain⟨x0q7,x0f,x0l⟩:=hBx.two;clear a0 a0f b0q7 b0f;refine ao ?_;refine aB rfl (λK hK=>?_) rfl;go_simp;generalize hX1:World.setCell _ _ _=V1;obtain⟨hB1,hE5,hF1⟩:=bA (w:=wr) [.int .i64 x.op,.int .i64 x.target,.bool x.dg,.int .i64 eo,.int .i64 en,.string es,.slice EA em ec,.bool x.place.param,.int .i64 x.place.index,.slice QA qm qc,.slice IA ixq7 ic,.slice KA kxq7 kc] (by rfl) hBx hE4 hgx hX1;have hBb:=hBy.on hF1 (Ne.symm hne);clear x0q7 x0f x0l;obtain⟨y0q7,y0f,y0l⟩:=hBb.two;refine dz hK (hF1.mono λb hbq7=>ad) ?_;clear hK K;refine ao ?_;refine bM rfl (λK hK=>?_) rfl;go_simp;generalize hX2:World.setCell _ _ _=V2;obtain⟨hB2,hEV,hF2⟩:=bA (w:=wr) [.int .i64 x.op,.int .i64 x.target,.bool x.dg,.int .i64 eo,.int .i64 en,.string es,.slice EA' em' ec',.bool x.place.param,.int .i64 x.place.index,.slice QA' qm' qc',.slice IA' ix' ic',.slice KA' kxq7 kc'] (by rfl) hBb hE5 hgy hX2;refine dO hK ?_;clear hK K;refine b3 ?_;have HVq7:=ae (And.intro (HEq7.o.trans hEV) (And.intro (hB1.on hF2 hne) hB2));clear hX1 hX2 hB1 hB2 hF1 hF2 hE5 hEV hBb hBx hBy hE4 y0q7 y0f y0l;obtain⟨x0q7,x0f,x0l⟩:=HVq7.o.2.1.two;obtain⟨y0q7,y0f,y0l⟩:=HVq7.o.2.2.two;go_wp2_with(fail);refine(H.o.1 V2 HVq7.o.1).mono ?_;rintro e w1q7 ⟨rfl,hE1⟩;have H1:=ae (And.intro (HVq7.o.1.trans hE1) hE1);clear hE1 x0q7 x0f x0l y0q7 y0f y0l;obtain⟨x0q7,x0f,x0l⟩:=(HVq7.o.2.1.ai H1.o.2).two;obtain⟨y0q7,y0f,y0l⟩:=(HVq7.o.2.2.ai H1.o.2).two;go_wp2_with(fail)
    refine(H.o.2.1 w1q7 H1.o.1).mono ?_;rintro e w2q7 ⟨rfl,hE2⟩;have H2q7:=ae (And.intro (H1.o.1.trans hE2) (H1.o.2.trans hE2));clear hE2 x0q7 x0f x0l y0q7 y0f y0l;obtain⟨x0q7,x0f,x0l⟩:=(HVq7.o.2.1.ai H2q7.o.2).two;obtain⟨y0q7,y0f,y0l⟩:=(HVq7.o.2.2.ai H2q7.o.2).two;go_wp2_with(fail);refine(H.o.2.2.1 w2q7 H2q7.o.1).mono ?_;rintro e w3q7 ⟨rfl,hE3⟩;have H3q7:=ae (And.intro (H2q7.o.1.trans hE3) (H2q7.o.2.trans hE3));clear hE3 x0q7 x0f x0l y0q7 y0f y0l;obtain⟨x0q7,x0f,x0l⟩:=(HVq7.o.2.1.ai H3q7.o.2).two;obtain⟨y0q7,y0f,y0l⟩:=(HVq7.o.2.2.ai H3q7.o.2).two;go_wp2_with(fail);clear x0q7 x0f x0l y0q7 y0f y0l;go_loopw [8] (λjvq7 wr2=>∃j:Nat,jvq7=.int .i64 j/\j<=kxq7/\Ext w3q7 wr2) (λjvq7 _=>kxq7 - (intOf jvq7).toNat)
    case atStart=>exact⟨0,rfl,ad,Fr.refl _ _⟩
    case round=>
     obtain⟨j,rfl,hjq7,hE5⟩:=hrel;have HE5:=ae (And.intro (H3q7.o.1.trans hE5) (H3q7.o.2.trans hE5));have HJq7:=ae hE5;obtain⟨x0q7,x0f,x0l⟩:=(HVq7.o.2.1.ai HE5.o.2).two;obtain⟨y0q7,y0f,y0l⟩:=(HVq7.o.2.2.ai HE5.o.2).two;by_cases hlt:j<kxq7
     .obtain⟨b,o,p,cs,rfl,hbq7,hyq7,hyr,_,hcc⟩:=(H.o.2.2.2.1.on (Fr.ext HE5.o.1)).g0 encPz hlt;obtain⟨b',o',p',cs',rfl,hb',hy',hyr',_,hcc'⟩:=(H.o.2.2.2.2.1.on (Fr.ext HE5.o.1)).g0 encPz hlt;obtain rfl:p=p':=by rw[hyq7] at hy';injection hy'
      obtain⟨YA,ymq7,ycq7,rfl,hyc,hys⟩:=dT.1 hyr;obtain⟨ZA,zmq7,zc,rfl,hzc,hzs⟩:=dT.1 hyr';have c0:=hcc 0 _ rfl;have c1:=hcc 1 _ rfl;have c2:=hcc 2 _ rfl;have e0:=hcc' 0 _ rfl;have e1:=hcc' 1 _ rfl;have e2:=hcc' 2 _ rfl;simp only[Nat.add_zero] at c0 e0;have hb1:b<wr.heap.size:=hbq7;have hb2:b'<wr.heap.size:=hb';have HCq7:=ae (spl_any p wr.drew YA ymq7 ycq7 ZA zmq7 zc (hys.on (Fr.ext (Fr.refl _ wr).drew)) (hzs.on (Fr.ext (Fr.refl _ wr).drew)));clear hyq7 hy' hyr hyr' hys hzs hcc hcc' hbq7 hb' hE5;go_upto_region 12 with(fail);refine eK (λ_=>False) [(0,3),(1,0),(2,3),(3,3),(4,0),(5,3),(6,0),(7,3),(8,3),(9,0),(10,2),(11,3)] ?_;refine pf ?_;refine ph ?_
      iterate 2 refine pf ?_
      refine ph ?_;refine pf ?_;refine ph ?_
      iterate 2 refine pf ?_
      refine ph ?_;refine ax rfl (λK hK=>?_);go_simp;refine HCq7.o.mono ?_;rintro e w6q7 ⟨rfl,hE6⟩;have H6q7:=ae (HJq7.o.trans (Fr.aF hE6));refine dO hK ?_;clear hK K;clear hE6 x0q7 x0f x0l y0q7 y0f y0l c0 c1 c2 e0 e1 e2;refine pf ?_;refine aE ?_;go_wp2_with(fail);go_roundw
      case rel=>exact⟨j+1,by go_num,ad,H6q7.o⟩
      case measure=>simp[intOf];omega
     .clear hE5;go_wp2_with(fail);go_roundw
      case rel=>exact⟨1,by first|rfl|go_num,ad,HE5.o.1⟩
      case measure=>simp[intOf]<;>omega
  .clear hEq7;go_wp2_with(fail);go_ret;exact⟨rfl,HEq7.o⟩
end Go.Proofs.YtglbpimocmhojaaGreat

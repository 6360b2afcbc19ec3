/- SameExpr, sameExprs, samePlace: equal things are told equal. Conditions: fx. -/
import Derived.Test.YtglbpimocmhojaaGreatQ18
import Derived.Test.YtglbpimocmhojaaGreatQ19
namespace Go.Proofs.YtglbpimocmhojaaGreat
open Go.RowKit
set_option maxRecDepth 1000000
set_option linter.unusedVariables false
def SexSaid(x:VE):Prop:=∀(w:World) (A:Option Addr) (n c:Nat) (B:Option Addr) (m d:Nat),Sl w (av w) A n (x.args.map bk)->Sl w (av w) B m (x.args.map bk)->
 Calls Tryz.prog 57 #[.agg #[.int .i64 x.a9,.int .i64 x.numOf,.string x.bu,.slice A n c],.agg #[.int .i64 x.a9,.int .i64 x.numOf,.string x.bu,.slice B m d]] w λe w'=>e=.returned (.bool true)/\Ext w w'
set_option maxRecDepth 1000000 in
set_option maxHeartbeats 6400000 in
theorem sex_args(op num:Int)(g1:ByteArray)(l:List VE)(ihq7:∀y∈l,SexSaid y)(hl:l.length<=2)(w:World)(A:Option Addr)(n c:Nat)(B:Option Addr)(m d:Nat)(h:Sl w (av w) A n (l.map bk))(h2q7:Sl w (av w) B m (l.map bk)) :
  Calls Tryz.prog 57 #[.agg #[.int .i64 op,.int .i64 num,.string g1,.slice A n c],.agg #[.int .i64 op,.int .i64 num,.string g1,.slice B m d]] w λe w'=>e=.returned (.bool true)/\Ext w w':=by
 have hn:n<=2:=by have:=h.1;simp at this;omega
 obtain rfl:n=m:=by have:=h.1;have:=h2q7.1;omega
 have H:=ae (And.intro h h2q7);have HIq7:=ae ihq7;have q1:(op != op)=false:=by simp
 have q2q7:(num != num)=false:=by simp
 have q3q7:(g1.toList != g1.toList)=false:=by simp
 have q4q7:((n:Int) != (n:Int))=false:=by simp
 clear h h2q7 ihq7 hl;go_enter Tryz.func57,Tryz.ntmps57;go_upto_region 1 with(fail);generalize hWq7:World.alloc _ _=W;have hEq7:Ext w W:=by rw[<-hWq7];exact((Fr.refl _ _).alloc _).alloc _
 have hB1:aq W w.heap.size 53 #[.int .i64 op,.int .i64 num,.string g1,.slice A n c]:=by rw[<-hWq7];exact(aq.new _ _ _).alloc _
 have hB2:aq W (w.heap.size+1) 53 #[.int .i64 op,.int .i64 num,.string g1,.slice B n d]:=by rw[<-hWq7];exact aq.gz _ _ _ (by simp)
 obtain⟨a0,a0f,a0l⟩:=hB1.two;obtain⟨b0q7,b0f,b0l⟩:=hB2.two;have HWq7:=ae (And.intro hEq7 (And.intro hB1 hB2));clear hWq7 hEq7 hB1 hB2;go_wp2_with(fail);clear a0 a0f a0l b0q7 b0f b0l;go_loopw [5] (λivq7 wr=>∃k:Nat,ivq7=.int .i64 k/\k<=n/\Ext W wr) (λivq7 _=>n - (intOf ivq7).toNat)
 case atStart=>exact⟨0,rfl,ad,Fr.refl _ _⟩
 case round=>
  obtain⟨k,rfl,hkq7,hEq7⟩:=hrel;have HEq7:=ae hEq7;obtain⟨a0,a0f,a0l⟩:=(HWq7.o.2.1.ai hEq7).two;obtain⟨b0q7,b0f,b0l⟩:=(HWq7.o.2.2.ai hEq7).two;by_cases hlt:k<n
  .have hwr:=HWq7.o.1.trans hEq7;obtain⟨b,o,y,cs,rfl,hbq7,hyq7,hyr,_,hcc⟩:=(H.o.1.on (Fr.ext hwr)).g0 c7 hlt;obtain⟨b',o',y',cs',rfl,hb',hy',hyr',_,hcc'⟩:=(H.o.2.on (Fr.ext hwr)).g0 c7 hlt;obtain rfl:y=y':=by rw[hyq7] at hy';injection hy'
   obtain⟨YA,ymq7,ycq7,rfl,hyc,hys⟩:=a1.1 hyr;obtain⟨ZA,zmq7,zc,rfl,hzc,hzs⟩:=a1.1 hyr';have c0:=hcc 0 _ rfl;have c1:=hcc 1 _ rfl;have c2:=hcc 2 _ rfl;have c3:=hcc 3 _ rfl;have e0:=hcc' 0 _ rfl;have e1:=hcc' 1 _ rfl;have e2:=hcc' 2 _ rfl;have e3:=hcc' 3 _ rfl;simp only[Nat.add_zero] at c0 e0;have hb1:b<wr.heap.size:=hbq7;have hb2:b'<wr.heap.size:=hb';have HCq7:=ae (HIq7.o y (List.mem_of_getElem? hyq7) wr.drew YA ymq7 ycq7 ZA zmq7 zc (hys.on (Fr.ext (Fr.refl _ wr).drew)) (hzs.on (Fr.ext (Fr.refl _ wr).drew)));clear hyq7 hy' hyr hyr' hys hzs hcc hcc' hbq7 hb' hEq7 hwr;go_upto_region 6 with(fail);refine eK (λ_=>False) [(0,3),(1,0),(2,3),(3,3),(4,0),(5,3),(6,0),(7,3),(8,3),(9,0),(10,2),(11,3)] ?_;refine pf ?_;refine ph ?_
   iterate 2 refine pf ?_
   refine ph ?_;refine pf ?_;refine ph ?_
   iterate 2 refine pf ?_
   refine ph ?_;refine ax rfl (λK hK=>?_);go_simp;refine HCq7.o.mono ?_;rintro e w1q7 ⟨rfl,hE1⟩;have H1:=ae (HEq7.o.trans (Fr.aF hE1));refine dO hK ?_;clear hK K;clear hE1 a0 a0f a0l b0q7 b0f b0l c0 c1 c2 c3 e0 e1 e2 e3;refine pf ?_;refine aE ?_;go_wp2_with(fail);go_roundw
   case rel=>exact⟨k+1,by go_num,ad,H1.o⟩
   case measure=>simp[intOf];omega
  .clear hEq7;go_wp2_with(fail);go_ret;exact⟨rfl,HWq7.o.1.trans HEq7.o⟩
theorem sex_any:∀x:VE,SexSaid x
 | .num n=>λw A m c B k d h=>sex_args 1 n ⟨#[]⟩ [] (by simp) (by simp) w A m c B k d h
 | .g1 s=>λw A m c B k d h=>sex_args 2 0 s [] (by simp) (by simp) w A m c B k d h
 | .loc k=>λw A m c B j d h=>sex_args 18 k ⟨#[]⟩ [] (by simp) (by simp) w A m c B j d h
 | .iB k=>λw A m c B j d h=>sex_args 19 k ⟨#[]⟩ [] (by simp) (by simp) w A m c B j d h
 | .un op x=>λw A m c B k d h=>sex_args op 0 ⟨#[]⟩ [x] (λy hyq7=>by rw[List.mem_singleton.1 hyq7];exact sex_any x) (by simp) w A m c B k d h
 | .bin op x y=>λw A m c B k d h=>sex_args op 0 ⟨#[]⟩ [x,y] (λz hzq7=>by
   simp only[List.mem_cons,List.not_mem_nil,or_false] at hzq7;rcases hzq7 with hzq7|hzq7
   .rw[hzq7];exact sex_any x
   .rw[hzq7];exact sex_any y) (by simp) w A m c B k d h
set_option maxRecDepth 1000000 in
set_option maxHeartbeats 6400000 in
theorem sexs_any(l:List VE)(hl:l.length<=200)(w:World)(A:Option Addr)(n c:Nat)(B:Option Addr)(m d:Nat)(h:Sl w (av w) A n (l.map bk))(h2q7:Sl w (av w) B m (l.map bk)) :
  Calls Tryz.prog 59 #[.slice A n c,.slice B m d] w λe w'=>e=.returned (.bool true)/\Ext w w':=by
 have hn:n<=200:=by have:=h.1;simp at this;omega
 obtain rfl:n=m:=by have:=h.1;have:=h2q7.1;omega
 have H:=ae (And.intro h h2q7);have q4q7:((n:Int) != (n:Int))=false:=by simp
 clear h h2q7 hl;go_enter Tryz.func59,Tryz.ntmps59;go_wp2_with(fail);go_loopw [5] (λivq7 wr=>∃k:Nat,ivq7=.int .i64 k/\k<=n/\Ext w wr) (λivq7 _=>n - (intOf ivq7).toNat)
 case atStart=>exact⟨0,rfl,ad,Fr.refl _ _⟩
 case round=>
  obtain⟨k,rfl,hkq7,hEq7⟩:=hrel;have HEq7:=ae hEq7;by_cases hlt:k<n
  .obtain⟨b,o,y,cs,rfl,hbq7,hyq7,hyr,_,hcc⟩:=(H.o.1.on (Fr.ext hEq7)).g0 c7 hlt;obtain⟨b',o',y',cs',rfl,hb',hy',hyr',_,hcc'⟩:=(H.o.2.on (Fr.ext hEq7)).g0 c7 hlt;obtain rfl:y=y':=by rw[hyq7] at hy';injection hy'
   obtain⟨YA,ymq7,ycq7,rfl,hyc,hys⟩:=a1.1 hyr;obtain⟨ZA,zmq7,zc,rfl,hzc,hzs⟩:=a1.1 hyr';have c0:=hcc 0 _ rfl;have c1:=hcc 1 _ rfl;have c2:=hcc 2 _ rfl;have c3:=hcc 3 _ rfl;have e0:=hcc' 0 _ rfl;have e1:=hcc' 1 _ rfl;have e2:=hcc' 2 _ rfl;have e3:=hcc' 3 _ rfl;simp only[Nat.add_zero] at c0 e0;have hb1:b<wr.heap.size:=hbq7;have hb2:b'<wr.heap.size:=hb';have HCq7:=ae (sex_any y wr.drew YA ymq7 ycq7 ZA zmq7 zc (hys.on (Fr.ext (Fr.refl _ wr).drew)) (hzs.on (Fr.ext (Fr.refl _ wr).drew)));clear hyq7 hy' hyr hyr' hys hzs hcc hcc' hbq7 hb' hEq7;go_upto_region 6 with(fail);refine eK (λ_=>False) [(0,3),(1,3),(2,3),(3,0),(4,3),(5,3),(6,3),(7,0),(8,2),(9,3)] ?_
   iterate 3 refine pf ?_
   refine ph ?_
   iterate 3 refine pf ?_
   refine ph ?_;refine ax rfl (λK hK=>?_);go_simp;refine HCq7.o.mono ?_;rintro e w1q7 ⟨rfl,hE1⟩;have H1:=ae (HEq7.o.trans (Fr.aF hE1));refine dO hK ?_;clear hK K;clear hE1 c0 c1 c2 c3 e0 e1 e2 e3;refine pf ?_;refine aE ?_;go_wp2_with(fail);go_roundw
   case rel=>exact⟨k+1,by go_num,ad,H1.o⟩
   case measure=>simp[intOf];omega
  .clear hEq7;go_wp2_with(fail);go_ret;exact⟨rfl,HEq7.o⟩
set_option maxRecDepth 1000000 in
set_option maxHeartbeats 6400000 in
theorem spl_any(p:bQ)(w:World)(A:Option Addr)(n c:Nat)(B:Option Addr)(m d:Nat)(h:Sl w (av w) A n (p.at_.toList.map bk))(h2q7:Sl w (av w) B m (p.at_.toList.map bk)) :
  Calls Tryz.prog 58 #[.agg #[.bool p.param,.int .i64 p.index,.slice A n c],.agg #[.bool p.param,.int .i64 p.index,.slice B m d]] w λe w'=>e=.returned (.bool true)/\Ext w w':=by
 have hl:p.at_.toList.length<=200:=by cases p.at_<;>simp
 have H:=ae (λ(V:World) (hV:Ext w V)=>sexs_any p.at_.toList hl V A n c B m d (h.on (Fr.ext hV)) (h2q7.on (Fr.ext hV)));have q1:(p.param == p.param)=true:=by simp
 have q2q7:(p.index == p.index)=true:=by simp
 generalize p.param=paq7 at *;generalize p.index=pi at *;clear h h2q7 hl;go_enter Tryz.func58,Tryz.ntmps58;go_upto_region 1 with(fail);generalize hWq7:World.alloc _ _=W;have hEq7:Ext w W:=by rw[<-hWq7];exact((Fr.refl _ _).alloc _).alloc _
 have hB1:aq W w.heap.size 55 #[.bool paq7,.int .i64 pi,.slice A n c]:=by rw[<-hWq7];exact(aq.new _ _ _).alloc _
 have hB2:aq W (w.heap.size+1) 55 #[.bool paq7,.int .i64 pi,.slice B m d]:=by rw[<-hWq7];exact aq.gz _ _ _ (by simp)
 obtain⟨a0,a0f,a0l⟩:=hB1.two;obtain⟨b0q7,b0f,b0l⟩:=hB2.two;have HWq7:=ae hEq7;clear hWq7 hEq7 hB1 hB2;go_wp2_with(fail);refine(H.o W HWq7.o).mono ?_;rintro e w1q7 ⟨rfl,hE1⟩;have H1:=ae hE1;clear hE1 a0 a0f a0l b0q7 b0f b0l;go_wp2_with(fail);go_ret;exact⟨rfl,HWq7.o.trans H1.o⟩
end Go.Proofs.YtglbpimocmhojaaGreat

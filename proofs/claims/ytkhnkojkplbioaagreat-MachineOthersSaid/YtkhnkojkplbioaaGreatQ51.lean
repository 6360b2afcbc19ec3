/- Part 51 of the proof. No condition of its own. -/
import Derived.Test.YtkhnkojkplbioaaGreatQ45
import Derived.Test.YtkhnkojkplbioaaGreatQ47
namespace Go.Proofs.YtkhnkojkplbioaaGreat
open Go.RowKit Go.Proofs.Tryz
set_option maxRecDepth 1000000
set_option maxHeartbeats 25600000
set_option linter.unusedVariables false
variable{p:Prop}
theorem rM{a b:World}(h:Below a.heap.size a b):Ext a b:=⟨h.os,h.tape,h.output,h.size,λk ap _=>h.block k ap⟩
namespace DC
theorem eU(h:p:=by
 refine tf ?_;refine b9 ?_;generalize bF:World.setCell _ _ _=Z;obtain⟨bk,bd,bg⟩:=bw (w:=W) [.slice aJ aL aK,.slice bf I L,.slice bV ci bn,.int .i64 S.fault] (by rfl) bC co gt bF;have y:(⟨aJ,aL,aK,bf,I,L,bV,ci,bn⟩:SV).Is Z (λb=>W.heap.size<=b/\b<Z.heap.size/\b≠az) S:=(av.al λb O=>bg.block b O.2.1 O.2.2).mono λb O=>⟨O.1,by have:=bg.size;have:=O.2.1;omega,O.2.2⟩
 have bh:=aE y bd bk;have bp:=ah.2.2.aj bd;have bI:=bd.size;obtain⟨a1,g,f⟩:=bk.two;obtain⟨bl,aA,aO⟩:=bp.two;have E:=ae bp;clear bF bk bd bg y bC co gt av b2 ai N bp;go_wp2_with(fail);generalize bF:World.setCell _ _ _=Y;obtain⟨bK,bt,bR⟩:=bw (w:=w) [.slice aJ aL aK,.slice bf I L,.slice bV ci bn,.int .i64 S.fault] (by rfl) E.o (ah.1.trans bh.2.1) ad bF;have bu:=ag bt bR;clear bF bt bR bl aA aO a1 g f;obtain⟨bl,aA,aO⟩:=bK.two;refine LU (v:=.agg #[.slice aJ aL aK,.slice bf I L,.slice bV ci bn,.int .i64 S.fault]) (by simp[results,Tryz.results23,go_sem,bl]) rfl ?_;have cV:=bu.2.size;exact⟨⟨aJ,aL,aK,bf,I,L,bV,ci,bn⟩,rfl,(bh.1.al λb O=>bu.2.block b O.2.1 (aD O.1)).mono λb O=>⟨by have:=O.1;omega,by have:=O.2.1;omega⟩,bu.1⟩
 ):p:=h
theorem Bz(h:p:=by
 have hd:W.drew.heap.size=W.heap.size:=rfl;have F:Ext W Z/\aq Z b6.heap.size 40 #[.slice none 0 0,.slice none 0 0,.slice none 0 0,.int .i64 0]/\W.heap.size<=b6.heap.size/\∃cN:SV,(Value.agg (ar.val S))=.agg (cN.val S)/\cN.Is Z (λb=>W.heap.size<=b/\b<Z.heap.size/\b≠b6.heap.size) S:=⟨((Fr.aF aZ).trans a4).trans e2,aR,ad,ar,rfl,(r.al λb O=>e2.block b O.2 λh=>h).mono λb O=>ad⟩
 clear bF e2 aR r a4 aZ s2 T eE hd bc bj ca;revert F;generalize b6.heap.size=az;exact z5
 ):p:=h
end DC
open DC in
theorem wQ(u:ay)(p:UV)(A:L3)(n c:Nat)(l:List Int)(w:World)(hU:tV u)(hu:p.Ok w u)(hl:cp (EF cP) 1 w w.heap.size A n l) :
  Calls prog 23 #[.agg (p.val u),.slice A n c] w λe ab=>∃q:SV,e=.returned (.agg (q.val (gE u (dG u) (cr l 60))))/\q.Is ab (fresh w ab) (gE u (dG u) (cr l 60))/\Ext w ab:=by
 obtain⟨GA,gn,gc,MA,mn,mc,PA,pn,pc⟩:=p;have hlen:(cr l 60).length<=60:=by unfold cr;rw[Lo,List.length_take];omega
 have hex:∃S,gE u (dG u) (cr l 60)=S:=⟨_,rfl⟩
 obtain⟨S,hS⟩:=hex;have z:∃m:Nat,(iU u (dG u) (cr l 60)).length=m:=⟨_,rfl⟩
 obtain⟨m,hm⟩:=z;have cD:=bJ hU hlen hS hm;have d4:∀(B:L3) (k d:Nat) (V:World),(⟨GA,gn,gc,MA,mn,mc,PA,pn,pc⟩:UV).Ok V u->cp (EF cP) 1 V V.heap.size B k (cr l 60)->k<=60->Calls prog 37 #[.agg ((⟨GA,gn,gc,MA,mn,mc,PA,pn,pc⟩:UV).val u),.slice B k d] V (zC V S m):=by
  intro B k d V ac au aY;have:=Kb u (cr l 60) B k d V ⟨GA,gn,gc,MA,mn,mc,PA,pn,pc⟩ cD.1 ac au ad;rw[cD.2.2.1,cD.2.2.2] at this;exact this
 have a3:=ae d4;rw[hS];have H:=ag hu hl;clear hU hu hl hlen hS hm d4;dsimp only[UV.val];go_enter func23,ntmps23;go_upto_region 1 with(fail);generalize be:World.alloc _ _=W;have aw:=iS be;have c4:aq W w.heap.size 30 #[.slice GA gn gc,.slice MA mn mc,.slice PA pn pc,.int .i64 u.main]:=be▸(LX).alloc _;have cx:=gf be;have ah:=aE aw c4 cx;have am:=cx.lt;have j:=ag (H.1.on aw) (H.2.c8 aw.ext aw.size);obtain⟨bx,a5,aT⟩:=c4.two;clear be aw c4 cx;refine rC (λ_=>False) [8] (.held 0 (.free 1 (.pick [2,7] (λi=>bif i == 2 then .pick [3,7] (λi=>bif i == 3 then .free 4 (.free 5 (.free 6 (.pick [7] (λ_=>.pick [8] (λ_=>.free 9 (.stop)))))) else .pick [3] (λ_=>.free 4 (.free 5 (.free 6 (.pick [8] (λ_=>.free 9 (.stop))))))) else .pick [2] (λ_=>.pick [3] (λ_=>.free 4 (.free 5 (.free 6 (.pick [8] (λ_=>.free 9 (.stop))))))))))) ?_;refine th ?_;refine tf ?_;refine g0 (P:=?oU) (ops:=?Ie) (Q:=?Ih) (R:=?Ij) (tails:=?Iu) (rest:=.pick [8] (λ_=>.free 9 (.stop))) (aa:=?HP)
  (C:=λ(az:Nat) (o:Value) (Y:Value) bD=>Ext W bD/\aq bD az 40 #[.slice none 0 0,.slice none 0 0,.slice none 0 0,.int .i64 0]/\W.heap.size<=az/\∃ar:SV,Y=.agg (ar.val S)/\ar.Is bD (λb=>W.heap.size<=b/\b<bD.heap.size/\b≠az) S) (λkey=>?wP) ?wI
 case wP=>
  refine a2 ?_ ?_
  ·
   refine aB rfl (λK hK=>?_) rfl;go_simp;refine(sc A n c 60 l W.drew (j.2.c8 (Below.drew (Below.refl _ _)) (Lk _)) ad).mono ?_;rintro e aU ⟨A2,c2,rfl,ca,bc,bj⟩;have aZ:Ext W.drew aU:=rM bj;have s:(cr l 60).length<=60:=cD.2.1;generalize dk:(cr l 60).length=ak at ca bc s ⊢;clear dk;refine dq hK (aZ) ?_;clear hK K;refine a2 ?_ ?_
   ·
    refine aB rfl (λK hK=>?_) rfl;go_simp;refine(a3.o A2 ak c2 aU (j.1.on (Fr.aF aZ)) bc s).mono ?_;exact By
   ·
    refine dT ?_;generalize bF:World.alloc _ _=Z;have e2:=aW bF;have aR:=aI bF;refine ao ?_;refine aB rfl (λK hK=>?_) rfl;go_simp;refine(a3.o A2 ak c2 Z (j.1.on ((Fr.aF aZ).trans e2)) (bc.c8 e2.ext e2.size) s).mono ?_;rintro e cK ⟨ar,rfl,r,a4⟩;refine dq hK (a4) ?_;clear hK K
    iterate 3 refine tf ?_
    have s2:=aZ.size;have T:=a4.size;have eE:=aR.lt;have hd:W.drew.heap.size=W.heap.size:=rfl;have F:Ext W cK/\aq cK aU.heap.size 40 #[.slice none 0 0,.slice none 0 0,.slice none 0 0,.int .i64 0]/\W.heap.size<=aU.heap.size/\∃cN:SV,(Value.agg (ar.val S))=.agg (cN.val S)/\cN.Is cK (λb=>W.heap.size<=b/\b<cK.heap.size/\b≠aU.heap.size) S:=⟨((Fr.aF aZ).trans e2).trans a4,aR.aj a4,ad,ar,rfl,r.mono λb O=>ad⟩
    clear bF e2 aR r a4 aZ s2 T eE hd bc bj ca;revert F;generalize aU.heap.size=az;exact z5
  ·
   refine dT ?_;generalize bF:World.drew (World.alloc _ _)=Z;have e2:=gK bF;have aR:=kx bF;refine ao ?_;refine aB rfl (λK hK=>?_) rfl;go_simp;refine(sc A n c 60 l Z (j.2.c8 e2.ext e2.size) ad).mono ?_;rintro e aU ⟨A2,c2,rfl,ca,bc,bj⟩;have aZ:Ext Z aU:=rM bj;have s:(cr l 60).length<=60:=cD.2.1;generalize dk:(cr l 60).length=ak at ca bc s ⊢;clear dk;refine dq hK (aZ) ?_;clear hK K;refine ao ?_;refine aB rfl (λK hK=>?_) rfl;go_simp;refine(a3.o A2 ak c2 aU (j.1.on (e2.trans aZ)) bc s).mono ?_;rintro e b6 ⟨ar,rfl,r,a4⟩;refine dq hK (a4) ?_;clear hK K
   iterate 3 refine tf ?_
   have s2:=aZ.size;have T:=a4.size;have eE:=aR.lt;have F:Ext W b6/\aq b6 W.heap.size 40 #[.slice none 0 0,.slice none 0 0,.slice none 0 0,.int .i64 0]/\W.heap.size<=W.heap.size/\∃cN:SV,(Value.agg (ar.val S))=.agg (cN.val S)/\cN.Is b6 (λb=>W.heap.size<=b/\b<b6.heap.size/\b≠W.heap.size) S:=⟨(e2.trans aZ).trans a4,(aR.aj aZ).aj a4,Lk _,ar,rfl,r.mono λb O=>ad⟩
   clear bF e2 aR r a4 aZ s2 T eE bc bj ca;revert F key;generalize (Value.agg (ar.val S))=Y;generalize (Value.slice A2 ak c2)=o;intro key F;exact key W.heap.size o Y _ F
 case wI=>
  rintro az o Y bD ⟨co,bC,gt,⟨aJ,aL,aK,bf,I,L,bV,ci,bn⟩,rfl,av⟩;dsimp only[SV.val];obtain⟨b2,ai,N⟩:=bC.two;clear bx a5 aT;exact fp
theorem uM(u:ay)(p:UV)(A:L3)(n c:Nat)(l:List Int)(w:World)(hU:tV u)(hu:p.Ok w u)(hl:cp (EF cP) 1 w w.heap.size A n l) :
  Calls prog 23 #[.agg (p.val u),.slice A n c] w λe ab=>∃q:SV,e=.returned (.agg (q.val (gE u (dG u) (cr l 60))))/\q.Ok ab (gE u (dG u) (cr l 60))/\Ext w ab:=
 (wQ u p A n c l w hU hu hl).mono λ_ _ ⟨q,he,bA,aw⟩=>⟨q,he,bA.ok λb O=>O.2,aw⟩
theorem Gu(u:ay)(hU:tV u)(l:List Int):aX u 60 (gE u (dG u) (cr l 60)):=by
 have h:=w9 hU.ok (cr l 60) 0 (dG u) (pg hU.ok);have hl:(cr l 60).length<=60:=by unfold cr;rw[Lo,List.length_take];omega
 exact h.mono ad
theorem jf{u:ay}{s:ai}{t:Int}(h:s.fault≠0):aV u s t=(s,false):=by
 unfold aV de;simp[h]
end Go.Proofs.YtkhnkojkplbioaaGreat

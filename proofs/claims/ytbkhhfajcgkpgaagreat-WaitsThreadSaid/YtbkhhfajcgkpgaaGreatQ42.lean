/- Part 42 of the proof. No condition of its own. -/
import Derived.Test.YtbkhhfajcgkpgaaGreatQ34
import Derived.Test.YtbkhhfajcgkpgaaGreatQ37
import Derived.Test.YtbkhhfajcgkpgaaGreatQ38
import Derived.Test.YtbkhhfajcgkpgaaGreatQ39
import Derived.Test.YtbkhhfajcgkpgaaGreatQ40
namespace Go.Proofs.YtbkhhfajcgkpgaaGreat
open Go.RowKit Go.Proofs.Tryz
set_option maxRecDepth 1000000
set_option maxHeartbeats 25600000
set_option linter.unusedVariables false
variable{p:Prop}
def pW(x:Int):Int:=if Int.tmod x 16=7 then x else within x 4
def cu(l:List Int)(m:Nat):List Int:=(l.take m).map pW
theorem rv(A:Kr)(n c m:Nat)(l:List Int)(w:World)(h:cC (EF b2) 1 w w.heap.size A n l)(hm:m≤1000) :
  Calls prog 31 #[.slice A n c,.int .i64 m] w fun r ac=>∃I az,r=.returned (.slice I (cu l m).length az)∧(cu l m).length≤az∧cC (EF b2) 1 ac ac.heap.size I (cu l m).length (cu l m)∧Below w.heap.size w ac:=by
 have hl:=h.1;have bK:=ad hl;clear hl;go_enter func31,ntmps31;go_wp2;go_loopw [5,6] (fun v i wr=>∃k:Nat,k≤n∧k≤m∧i=.int .i64 k∧wr.ownsRow w.heap.size 3 1 v k (((l.take k).map pW).flatMap b2)∧Below w.heap.size w wr) (fun _ i _=>n - (intOf i).toNat)
 case atStart=>exact⟨0,Kc _,Kc _,rfl,World.ownsRow_nil _ _ _ _,Below.refl _ _⟩
 case round=>
  obtain⟨k,aj,j,rfl,S,O⟩:=hrel;by_cases aw:k<n∧k<m
  ·obtain⟨J,cn⟩:=aw;obtain⟨b,o,x,rfl,an,hx,c0⟩:=(h.fS O).int J;have bO:=O.size;have bu:=ad (show ((l.take (k+1)).map pW).flatMap b2=((l.take k).map pW).flatMap b2++[.int .i64 (pW x)] by rw[a9 hx,JX,List.map_singleton,e6]);clear hx;have e:pW x=if Int.tmod x 16=7 then x else within x 4:=rfl
   have u:=ad e;clear e;by_cases g:Int.tmod x 16=7
   ·have q:=ad g;have f:(Int.tmod x 16 == 7)=true:=by simpa using g
    clear g;go_wp2_with(at_builtin;refine ch _ dm (by rfl) (.tmp 24) (.tmp 29) (by rfl) w.heap.size _ _ _ _ (by rfl) S (by rfl) (by rfl) (js _ _) ab ab bO ?_;intro v1 aN aL b7 cb);go_roundw
    case rel=>exact⟨k+1,ab,ab,by go_num,by rw[bu.o,u.o,if_pos q.o];exact aL,dJ O S b7 (JQ _) bO⟩
    case measure=>exact aB
   ·have q:=ad g;have f:(Int.tmod x 16 == 7)=false:=by simpa using g
    clear g;go_wp2_with(fail);refine(lY x 4 ab ab _).mono ?_;rintro r ac ⟨rfl,rfl⟩;go_wp2_with(at_builtin;refine ch _ dm (by rfl) (.tmp 31) (.tmp 37) (by rfl) w.heap.size _ _ _ _ (by rfl) S (by rfl) (by rfl) (js _ _) ab ab bO ?_;intro v1 aN aL b7 cb);go_roundw
    case rel=>exact⟨k+1,ab,ab,by go_num,by rw[bu.o,u.o,if_neg q.o];exact aL,dJ O S b7 (JQ _) bO⟩
    case measure=>exact aB
  ·obtain⟨ce,c1,rfl,bB,_,_,_⟩:=bs S;have hlen:(cu l m).length=k:=by
    have:=bK.o;unfold cu;rw[JU,List.length_take];omega
   have he:(l.take k).map pW=cu l m:=by
    have:=bK.o;unfold cu;congr 1
    rcases Nat.lt_or_ge k m with ae|ae
    ·rw[JY ab,JY ab]
    ·rw[show k=m by omega]
   obtain⟨F,a2⟩:=aM hlen he;clear hlen he;have fin:∃I az,Ending.returned (.slice ce k c1)=.returned (.slice I (cu l m).length az)∧(cu l m).length≤az∧cC (EF b2) 1 wr wr.heap.size I (cu l m).length (cu l m)∧Below w.heap.size w wr:=by
    rw[F.o,←a2.o];exact⟨ce,c1,rfl,bB,gS S (ib _) (by rw[a2.o];exact F.o),O⟩
   have d:=ad fin;clear fin;by_cases J:k<n
   ·have s:¬k<m:=fun aQ=>aw ⟨J,aQ⟩;clear aw;go_wp2;go_ret;exact d.o
   ·clear aw;go_wp2;go_ret;exact d.o
theorem wg(q:SV)(s:ah)(x:Int)(w:World)(h:q.Ok w s)(ae:1≤q.hn)(aC:q.hn≤1000000) :
  Calls prog 11 #[.agg (q.val s),.int .i64 x] w fun e ac=>e=.returned (.int .i64 (within x q.hn))∧Ext w ac:=by
 obtain⟨bp,bQ,a7,TA,tn,tc,HA,hn,hc⟩:=q;clear h;simp only at ae aC;dsimp only[SV.val];go_enter func11,ntmps11;go_wp2_with(fail);refine(lY x hn ab ab _).mono ?_;rintro r ac ⟨rfl,rfl⟩;exact uM
theorem qS{a b:World}(h:Below a.heap.size a b):Ext a b:=⟨h.os,h.tape,h.output,h.size,fun k aj _=>h.block k aj⟩
namespace B4
theorem gq(h:p:=by
 refine tf ?_;refine cw ?_;generalize bD:World.setCell _ _ _=Z;obtain⟨bC,bl,bn⟩:=cb (w:=W) [.slice aM ag N,.slice cq z s,.slice bL bN bX,.int .i64 S.fault] (by rfl) bH a2 gD bD;have G:(⟨aM,ag,N,cq,z,s,bL,bN,bX⟩:SV).Is Z (fun b=>W.heap.size≤b∧b<Z.heap.size∧b≠cn) S:=(I.aj fun b O=>bn.block b O.2.1 O.2.2).mono fun b O=>⟨O.1,by have:=bn.size;have:=O.2.1;omega,O.2.2⟩
 have ba:=aQ G bl bC;have b0:=ax.2.2.ak bl;have U:=bl.size;obtain⟨aD,o,r⟩:=bC.two;obtain⟨bv,bd,be⟩:=b0.two;have J:=ad b0;clear bD bC bl bn G bH a2 gD I cj j y b0;go_wp2_with(fail);generalize bD:World.setCell _ _ _=Y;obtain⟨bt,bA,bk⟩:=cb (w:=w) [.slice aM ag N,.slice cq z s,.slice bL bN bX,.int .i64 S.fault] (by rfl) J.o (ax.1.trans ba.2.1) ab bD;have bM:=ai bA bk;clear bD bA bk bv bd be aD o r;obtain⟨bv,bd,be⟩:=bt.two;refine Km (v:=.agg #[.slice aM ag N,.slice cq z s,.slice bL bN bX,.int .i64 S.fault]) (by simp[results,Tryz.results33,go_sem,bv]) rfl ?_;have cv:=bM.2.size;exact⟨⟨aM,ag,N,cq,z,s,bL,bN,bX⟩,rfl,(ba.1.aj fun b O=>bM.2.block b O.2.1 (aH O.1)).mono fun b O=>⟨by have:=O.1;omega,by have:=O.2.1;omega⟩,bM.1⟩
 ):p:=h
theorem g7(h:p:=by
 have ct:af W w.heap.size 26 #[.slice GA gn gc,.slice MA mn mc,.slice PA pn pc,.int .i64 u.main]:=bg▸(Ko).alloc _;have cO:af W (w.heap.size+1) 30 #[.slice none 0 0,.slice none 0 0,.slice none 0 0,.int .i64 0]:=bg▸af.ct _ _ _ (by simp);have ax:=aQ aF ct cO;have L:=cO.lt;have g:=ai (H.1.on aF) (H.2.cO aF.ext aF.size);obtain⟨br,ah,bj⟩:=ct.two;clear bg aF ct cO;refine tX (fun _=>False) [8] (.held 0 (.free 1 (.pick [2,7] (fun i=>bif i == 2 then .pick [3,7] (fun i=>bif i == 3 then .free 4 (.free 5 (.free 6 (.pick [7] (fun _=>.pick [8] (fun _=>.free 9 (.stop)))))) else .pick [3] (fun _=>.free 4 (.free 5 (.free 6 (.pick [8] (fun _=>.free 9 (.stop))))))) else .pick [2] (fun _=>.pick [3] (fun _=>.free 4 (.free 5 (.free 6 (.pick [8] (fun _=>.free 9 (.stop))))))))))) ?_;refine th ?_;refine tf ?_;refine iw (P:=?oK) (ops:=?G4) (Q:=?G6) (R:=?G7) (tails:=?G8) (rest:=.pick [8] (fun _=>.free 9 (.stop))) (aa:=?G3)
  (C:=fun(cn:Nat) (t:Value) (Y:Value) dz=>Ext W dz∧af dz cn 30 #[.slice none 0 0,.slice none 0 0,.slice none 0 0,.int .i64 0]∧W.heap.size≤cn∧∃aq:SV,Y=.agg (aq.val S)∧aq.Is dz (fun b=>W.heap.size≤b∧b<dz.heap.size∧b≠cn) S) (fun key=>?x6) ?xZ
 case x6=>
  refine bq ?_ ?_
  ·
   refine aE rfl (fun K hK=>?_) rfl;go_simp;refine(rv A n c 60 l W.drew (g.2.cO (Below.drew (Below.refl _ _)) (JQ _)) ab).mono ?_;rintro e aO ⟨A2,c2,rfl,bJ,am,bx⟩;have aS:Ext W.drew aO:=qS bx;have f:(cu l 60).length≤60:=cm.2.1;generalize di:(cu l 60).length=az at bJ am f ⊢;clear di;refine dW hK (aS) ?_;clear hK K;refine bq ?_ ?_
   ·
    refine aE rfl (fun K hK=>?_) rfl;go_simp;refine(aX.o A2 az c2 aO (g.1.on (Fr.aO aS)) am f).mono ?_;rintro e bU ⟨aq,rfl,al,bB⟩;refine dW hK (bB) ?_;clear hK K
    iterate 3 refine tf ?_
    refine ao ?_;refine eZ ?_;generalize bD:World.alloc _ _=Z;have e2:Ext bU Z:=bD▸Kn.alloc _;have aL:af Z bU.heap.size 30 #[.slice none 0 0,.slice none 0 0,.slice none 0 0,.int .i64 0]:=bD▸Ko;have s2:=aS.size;have aj:=bB.size;have fa:=e2.size;have hd:W.drew.heap.size=W.heap.size:=rfl;have F:Ext W Z∧af Z bU.heap.size 30 #[.slice none 0 0,.slice none 0 0,.slice none 0 0,.int .i64 0]∧W.heap.size≤bU.heap.size∧∃cB:SV,(Value.agg (aq.val S))=.agg (cB.val S)∧cB.Is Z (fun b=>W.heap.size≤b∧b<Z.heap.size∧b≠bU.heap.size) S:=⟨((Fr.aO aS).trans bB).trans e2,aL,ab,aq,rfl,(al.aj fun b O=>e2.block b O.2 fun h=>h).mono fun b O=>ab⟩
    clear bD e2 aL al bB aS s2 aj fa hd am bx bJ;revert F;generalize bU.heap.size=cn;exact yU
   ·
    refine eZ ?_;generalize bD:World.alloc _ _=Z;have e2:Ext aO Z:=bD▸Kn.alloc _;have aL:af Z aO.heap.size 30 #[.slice none 0 0,.slice none 0 0,.slice none 0 0,.int .i64 0]:=bD▸Ko;refine ao ?_;refine aE rfl (fun K hK=>?_) rfl;go_simp;refine(aX.o A2 az c2 Z (g.1.on ((Fr.aO aS).trans e2)) (am.cO e2.ext e2.size) f).mono ?_;rintro e ci ⟨aq,rfl,al,bB⟩;refine dW hK (bB) ?_;clear hK K
    iterate 3 refine tf ?_
    have s2:=aS.size;have aj:=bB.size;have fa:=aL.lt;have hd:W.drew.heap.size=W.heap.size:=rfl;have F:Ext W ci∧af ci aO.heap.size 30 #[.slice none 0 0,.slice none 0 0,.slice none 0 0,.int .i64 0]∧W.heap.size≤aO.heap.size∧∃cB:SV,(Value.agg (aq.val S))=.agg (cB.val S)∧cB.Is ci (fun b=>W.heap.size≤b∧b<ci.heap.size∧b≠aO.heap.size) S:=⟨((Fr.aO aS).trans e2).trans bB,aL.ak bB,ab,aq,rfl,al.mono fun b O=>ab⟩
    clear bD e2 aL al bB aS s2 aj fa hd am bx bJ;revert F;generalize aO.heap.size=cn;exact yU
  ·
   refine eZ ?_;generalize bD:World.drew (World.alloc _ _)=Z;have e2:Ext W Z:=bD▸(Kn.alloc _).drew;have aL:af Z W.heap.size 30 #[.slice none 0 0,.slice none 0 0,.slice none 0 0,.int .i64 0]:=bD▸Ko;refine ao ?_;refine aE rfl (fun K hK=>?_) rfl;go_simp;refine(rv A n c 60 l Z (g.2.cO e2.ext e2.size) ab).mono ?_;rintro e aO ⟨A2,c2,rfl,bJ,am,bx⟩;have aS:Ext Z aO:=qS bx;have f:(cu l 60).length≤60:=cm.2.1;generalize di:(cu l 60).length=az at bJ am f ⊢;clear di;refine dW hK (aS) ?_;clear hK K;refine ao ?_;refine aE rfl (fun K hK=>?_) rfl;go_simp;refine(aX.o A2 az c2 aO (g.1.on (e2.trans aS)) am f).mono ?_;rintro e bU ⟨aq,rfl,al,bB⟩;refine dW hK (bB) ?_;clear hK K
   iterate 3 refine tf ?_
   have s2:=aS.size;have aj:=bB.size;have fa:=aL.lt;have F:Ext W bU∧af bU W.heap.size 30 #[.slice none 0 0,.slice none 0 0,.slice none 0 0,.int .i64 0]∧W.heap.size≤W.heap.size∧∃cB:SV,(Value.agg (aq.val S))=.agg (cB.val S)∧cB.Is bU (fun b=>W.heap.size≤b∧b<bU.heap.size∧b≠W.heap.size) S:=⟨(e2.trans aS).trans bB,(aL.ak aS).ak bB,JQ _,aq,rfl,al.mono fun b O=>ab⟩
   clear bD e2 aL al bB aS s2 aj fa am bx bJ;revert F key;generalize (Value.agg (aq.val S))=Y;generalize (Value.slice A2 az c2)=t;intro key F;exact key W.heap.size t Y _ F
 case xZ=>
  rintro cn t Y dz ⟨a2,bH,gD,⟨aM,ag,N,cq,z,s,bL,bN,bX⟩,rfl,I⟩;dsimp only[SV.val];obtain⟨cj,j,y⟩:=bH.two;clear br ah bj;exact g8
 ):p:=h
end B4
open B4 in
theorem vA(u:av)(p:UV)(A:Kr)(n c:Nat)(l:List Int)(w:World)(hU:yy u)(hu:p.Ok w u)(hl:cC (EF b2) 1 w w.heap.size A n l) :
  Calls prog 33 #[.agg (p.val u),.slice A n c] w fun e ac=>∃q:SV,e=.returned (.agg (q.val (iB u (ew u) (cu l 60))))∧q.Is ac (fresh w ac) (iB u (ew u) (cu l 60))∧Ext w ac:=by
 obtain⟨GA,gn,gc,MA,mn,mc,PA,pn,pc⟩:=p;have hlen:(cu l 60).length≤60:=by unfold cu;rw[JU,List.length_take];omega
 have hex:∃S,iB u (ew u) (cu l 60)=S:=⟨_,rfl⟩
 obtain⟨S,hS⟩:=hex;have E:∃m:Nat,(jy u (ew u) (cu l 60)).length=m:=⟨_,rfl⟩
 obtain⟨m,hm⟩:=E;have cm:=bw hU hlen hS hm;have dP:∀(B:Kr) (k d:Nat) (V:World),(⟨GA,gn,gc,MA,mn,mc,PA,pn,pc⟩:UV).Ok V u→cC (EF b2) 1 V V.heap.size B k (cu l 60)→k≤60→Calls prog 42 #[.agg ((⟨GA,gn,gc,MA,mn,mc,PA,pn,pc⟩:UV).val u),.slice B k d] V (yH V S m):=by
  intro B k d V ae aC aT;have:=HP u (cu l 60) B k d V ⟨GA,gn,gc,MA,mn,mc,PA,pn,pc⟩ cm.1 ae aC ab;rw[cm.2.2.1,cm.2.2.2] at this;exact this
 have aX:=ad dP;rw[hS];have H:=ai hu hl;clear hU hu hl hlen hS hm dP;dsimp only[UV.val];go_enter func33,ntmps33;exact g6
theorem EU(u:av)(hU:yy u)(l:List Int):aS u 60 (iB u (ew u) (cu l 60)):=by
 have h:=sL hU.ok (cu l 60) 0 (ew u) (sx hU.ok);have hl:(cu l 60).length≤60:=by unfold cu;rw[JU,List.length_take];omega
 exact h.mono ab
theorem Db(A:Kr)(n c:Nat)(l:List Int)(w:World)(h:cC (EF b2) 1 w w.heap.size A n l)(hc:n≤c):Calls prog 59 #[.slice A n c] w (j2 w):=
 Jl A n c l w h hc fun K hK=>Iu w (.slice A n c) (fun bp a=>Iv w (.slice A n c) _ (fun _ _ d _ _ h=>by cases d<;>exact h) (fun a7 aM ae aC=>Iw w (.slice A n c) a7 aM ae aC) bp a) K hK
def Hk(w:World)(e:Ending)(ac:World):Prop:=∃(u:av) (a6 ar cZ i b4 t:Kr) (hg cQ cU cH bq cp d0 d1 d2 d3 d4 d5:Nat) (GA:Kr) (gn gc:Nat) (MA:Kr) (mn mc:Nat) (PA:Kr) (pn pc:Nat),e=.returned (.tuple #[.agg #[.slice a6 hg d0,.slice ar cQ d1,.slice cZ cU d2],.agg #[.slice GA gn gc,.slice MA mn mc,.slice PA pn pc,.int .i64 u.main],.agg #[.slice i cH d3,.slice b4 bq d4,.slice t cp d5]])∧yy u∧gn≤gc∧mn≤mc∧pn≤pc∧(ts u).rep ac (fresh w ac) [.slice GA gn gc,.slice MA mn mc,.slice PA pn pc,.int .i64 u.main]∧Ext w ac
namespace BP
theorem fK(h:p:=by
 go_wp2_with(fail);generalize ak:World.setCell _ _ _=hz;obtain⟨ar,a2,R⟩:=dL (M:=fun _=>False) (w:=w) [.slice ef n0 c0,.slice ce n1 c1,.slice A2 n2 c2] (by rfl) g bc.1 ab ak;have bf:=bc.2.2.1.on R ab;have a5:=bc.2.2.2.on R ab;have bn:Fr (fun b=>b<w.heap.size+3) Z hz:=bc.2.1.trans (R.mono fun b O=>ab);have ba:=ai a2 bn;clear ak a2 R g bn bc bv bd be;obtain⟨bv,bd,be⟩:=bf.two;obtain⟨G,av,aw⟩:=a5.two;obtain⟨t0,aL,aM⟩:=ar.two;refine Km (v:=.tuple #[.agg #[.slice GA gn gc,.slice MA mn mc,.slice FA fn fc],.agg #[.slice m bR bW,.slice o dK cV,.slice s t I,.int .i64 (fU p).main],.agg #[.slice ef n0 c0,.slice ce n1 c1,.slice A2 n2 c2]]) (by simp[results,Tryz.results32,go_sem,bv,G,t0]) rfl ?_;refine⟨fU p,?_⟩
 iterate 18 apply Exists.intro
 refine⟨m,bR,bW,o,dK,cV,s,t,I,rfl,⟨bi.o,xf p⟩,?_,?_,?_,?_,ba.1.drew⟩
 iterate 3
  ·obtain⟨_,_,_,_,_,_,_,_,_,he,ae,aC,aT,_⟩:=lK P.1;injection he with e1 he;injection he with e2 he;injection he with e3 he;injection e1 with _ ea eb;injection e2 with _ ec ed;injection e3 with _ ee aa;omega
 have U:=ba.2.size;have ch:(ts (fU p)).rep hz.drew (fresh X aO) [.slice m bR bW,.slice o dK cV,.slice s t I,.int .i64 (fU p).main]:=D.aN (fun b O=>ba.2.drew.block b (aH O.2) (aH O.1)) _ _ P.1;exact D.aF (fun b O=>⟨by have:=O.1;omega,by have:=O.2;show b<hz.heap.size;omega⟩) _ _ ch
 ):p:=h
theorem lA(h:p:=by
 have bH:af W w.heap.size 71 #[.slice none 0 0,.slice none 0 0,.slice none 0 0]:=bg▸((Ko).alloc _).alloc _;have bP:af W (w.heap.size+1) 26 #[.slice none 0 0,.slice none 0 0,.slice none 0 0,.int .i64 0]:=bg▸(af.ct _ _ _ (by simp)).alloc _;have bG:af W (w.heap.size+1+1) 75 #[.slice none 0 0,.slice none 0 0,.slice none 0 0]:=bg▸af.ct _ _ _ (by simp);have cA:W.heap.size=w.heap.size+3:=by rw[←bg];simp
 have y:=H.cO (Fr.ext aF) aF.size;have ax:=bw aF bH bP bG;have bK:=ad y;clear bg aF bH bP bG y H;go_wp2_with(fail);refine(Db A n c l W bK.o hc).mono ?_;rintro e aN ⟨p,GA,gn,gc,MA,mn,mc,FA,fn,fc,rfl,S,al,b7,F,aJ,hm,aD,aG⟩;have H1:=dA S aJ hm aD aG;have b1:=aG.size;clear S aJ hm aD aG bK;go_upto_region 2 with(fail);generalize hX:World.alloc _ _=X;have aY:af X aN.heap.size 71 #[.slice GA gn gc,.slice MA mn mc,.slice FA fn fc]:=hX▸Ko;have a4:Ext aN X:=hX▸Kn.alloc _;have f2:=a4.size;have aB:=aY.lt;obtain⟨d0,ag,aR⟩:=aY.two;have u:g1 X (au X) p GA gn MA mn FA fn:=⟨(Sl.aj H1.2.1 fun b O=>a4.block b O.2 (fun h=>h)).mono fun b O=>JR O.2 f2,(Sl.aj H1.2.2.1 fun b O=>a4.block b O.2 (fun h=>h)).mono fun b O=>JR O.2 f2,(Sl.aj H1.2.2.2.1 fun b O=>a4.block b O.2 (fun h=>h)).mono fun b O=>JR O.2 f2⟩
 have z:=aQ u aY (H1.2.2.2.2.trans a4);clear hX aY a4 u;go_wp2_with(fail);refine(CX p H1.1 GA gn gc MA mn mc FA fn fc X z.1).mono ?_;rintro e aO ⟨m,bR,bW,o,dK,cV,s,t,I,rfl,L,aS⟩;have bz:=aS.size;have T:=z.2.1.ak aS;have aE:=aQ L T (z.2.2.trans aS);clear L aS T d0 ag aR;go_upto_region 3 with(fail);generalize b6:World.alloc _ _=Y;have a1:af Y aO.heap.size 26 #[.slice m bR bW,.slice o dK cV,.slice s t I,.int .i64 (fU p).main]:=b6▸Ko;have f:Ext aO Y:=b6▸Kn.alloc _;have bO:=f.size;have aI:=a1.lt;obtain⟨d0,ag,aR⟩:=a1.two;have L:(ts (fU p)).rep Y (fresh X aO) [.slice m bR bW,.slice o dK cV,.slice s t I,.int .i64 (fU p).main]:=D.aN (fun b O=>f.block b O.2 (fun h=>h)) _ _ aE.1;have ap:g5 Y (au Y) (fU p) m bR o dK s t:=by
  obtain⟨_,_,_,_,_,_,_,_,_,he,_,_,_,hu⟩:=lK (D.aF (bb:=au Y) (fun b O=>JR O.2 bO) _ _ L);injection he with ae he;injection he with aC he;injection he with aT he;injection ae with aV O hc;injection aC with i bx bJ;injection aT with ac az am;subst aV O i bx ac az;exact hu
 have J:=dA L ap a1 (aE.2.1.ak f) (aE.2.2.trans f);have bi:=ad (xe H1.1);clear b6 a1 f L ap aE;go_wp2_with(fail);refine(xE (fU p) bi.o m bR bW o dK cV s t I Y J.2.1).mono ?_;rintro e bU ⟨ef,n0,c0,ce,n1,c1,A2,n2,c2,k,rfl,bB⟩;have cu:=bB.size;have ao:=bw (D.aN (fun b O=>bB.block b (JR O.2 bO) (fun h=>h)) _ _ J.1) (J.2.2.1.ak bB) (J.2.2.2.1.ak bB) (J.2.2.2.2.trans bB);clear bB d0 ag aR J;go_upto_region 4 with(fail);generalize bD:World.alloc _ _=Z;have b8:af Z bU.heap.size 75 #[.slice ef n0 c0,.slice ce n1 c1,.slice A2 n2 c2]:=bD▸Ko;have an:Ext bU Z:=bD▸Kn.alloc _;have c3:=an.size;have c3:=an.size;have L:=D.aN (fun b O=>an.block b (JR O.2 (J7 bO cu)) (fun h=>h)) _ _ ao.1;have a1:=ao.2.1.ak an;have aY:=ao.2.2.1.ak an;have N:Ext W Z:=ao.2.2.2.trans an;have Q:=ax.2.1.ak N;have r:=ax.2.2.1.ak N;have g:=ax.2.2.2.ak N;have P:=ai L (ax.1.trans N);have bs:=aQ aY a1 b8;have aX:=ai r g;obtain⟨bv,bd,be⟩:=Q.two;have ay:=b8.lt;clear bD an L ao N r g aY a1 b8;refine eE (fun b=>b<w.heap.size+3) [(0,0),(1,0),(2,0),(3,1),(4,1),(5,2)] ?_;refine bI (v:=?_) rfl (by rfl) (fun V hV=>?_) ?_;rotate_left
 ·obtain⟨d0,ag,aR⟩:=(bs.1.on (Fr.aO hV) ab).two
  (go_simp<;>with_reducible rfl)
 try simp only[PU]
 refine bI (v:=?_) rfl (by rfl) (fun V hV=>?_) ?_;rotate_left
 ·obtain⟨d0,ag,aR⟩:=(bs.2.1.on (Fr.aO hV) ab).two
  (go_simp<;>with_reducible rfl)
 try simp only[PU]
 refine bI (v:=?_) rfl (by rfl) (fun V hV=>?_) ?_;rotate_left
 ·obtain⟨d0,ag,aR⟩:=(bs.2.2.on (Fr.aO hV) ab).two
  (go_simp<;>with_reducible rfl)
 try simp only[PU]
 refine aK rfl (fun K hK=>?_);go_simp;refine dW hK (((Kn.setCell (.inl (by show w.heap.size<w.heap.size+3;omega)) _).setCell (.inl (by show w.heap.size<w.heap.size+3;omega)) _).setCell (.inl (by show w.heap.size<w.heap.size+3;omega)) _) ?_;clear hK K;generalize ah:World.setCell _ _ _=ck;obtain⟨bf,aS,aZ⟩:=dL (M:=fun _=>False) (w:=w) [.slice GA gn gc,.slice MA mn mc,.slice FA fn fc] (by rfl) Q P.2 (JQ _) ah;have r:=aX.1.on aZ ab;have g:=aX.2.on aZ ab;have j:=bw aS (Fr.mono (M':=fun b=>b<w.heap.size+3) aZ fun b O=>ab) bf g;clear ah aS aZ bf g Q bv bd be;obtain⟨bv,bd,be⟩:=r.two;refine aK rfl (fun K hK=>?_);go_simp;refine dW hK (((Kn.setCell (.inl (by show w.heap.size+1<w.heap.size+3;omega)) _).setCell (.inl (by show w.heap.size+1<w.heap.size+3;omega)) _).setCell (.inl (by show w.heap.size+1<w.heap.size+3;omega)) _ |>.setCell (.inl (by show w.heap.size+1<w.heap.size+3;omega)) _) ?_;clear hK K;generalize aj:World.setCell _ _ _=f1;obtain⟨a5,bB,bq⟩:=dL (M:=fun _=>False) (w:=w) [.slice m bR bW,.slice o dK cV,.slice s t I,.int .i64 (fU p).main] (by rfl) r j.1 ab aj;have g:=j.2.2.2.on bq ab;have bc:=bw bB (j.2.1.trans (bq.mono fun b O=>ab)) (j.2.2.1.on bq ab) a5;clear aj bB bq a5 r j bv bd be;obtain⟨bv,bd,be⟩:=g.two;exact fJ
 ):p:=h
end BP
open BP in
theorem DD(A:Kr)(n c:Nat)(l:List Int)(w:World)(h:cC (EF b2) 1 w w.heap.size A n l)(hc:n≤c):Calls prog 32 #[.slice A n c] w (Hk w):=by
 have H:=ad h;clear h;go_enter func32,ntmps32;exact lz
end Go.Proofs.YtbkhhfajcgkpgaaGreat

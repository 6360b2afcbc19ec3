/- Part 32 of the proof. No condition of its own. -/
import Derived.Test.YtnigabjngpnbiaaGreatQ20
import Derived.Test.YtnigabjngpnbiaaGreatQ31
namespace Go.Proofs.YtnigabjngpnbiaaGreat
open Go.RowKit Go.Proofs.Tryz
set_option maxRecDepth 1000000
set_option maxHeartbeats 25600000
set_option linter.unusedVariables false
variable{s:ByteArray}{cs:List Value}{P:Nat->Prop}{p:Prop}{w:World}
theorem kd{eo en:Int}{es:ByteArray}{EA:Kj}{em ec:Nat}(h:(m8 none).rep w P [.int .i64 eo,.int .i64 en,.string es,.slice EA em ec]):eo=0/\en=0/\es=⟨#[]⟩/\em=0:=by
 obtain⟨A,c,e⟩:=eF.1 h;simp only[List.cons.injEq,Value.int.injEq,Value.string.injEq,Value.slice.injEq,and_true,true_and] at e;exact⟨e.1,e.2.1,e.2.2.1,e.2.2.2.2.1⟩
theorem gH{A:Kj}{n c:Nat}(h:(oe none).rep w P [.string s,.slice A n c]):s=⟨#[]⟩/\n=0:=by
 unfold oe fM at h;rw[bK,dj] at h;obtain⟨y,e,h⟩:=h;injection e with e1 e2;injection e1 with e1;subst e2;obtain⟨a1,aQ,aW,b3,e,_,hs,ap⟩:=aO.1 h;injection e with e2 e3;injection e2 with _ e2 _;exact⟨e1,by rw[e2];exact hs.1.symm⟩
theorem CO{r:eR}(h:(eg (.mx r)).rep w P cs):∃s A n c EA ec,cs=[.bool true,.string s,.slice A n c,.int .i64 0,.int .i64 0,.string ⟨#[]⟩,.slice EA 0 ec]/\(kF r).rep w P [.string s,.slice A n c]:=by
 exact FK
namespace Ba
theorem tG(h:p:=by
 obtain⟨A,n,c,bt,rfl,_,hs,bi⟩:=aO.1 hx;rw[aS] at bi;subst bi;obtain rfl:n=0:=hs.1.symm;exact yc
 ):p:=h
end Ba
open Ba in
theorem CM{e:VE}(h:(eg (.ex e)).rep w P cs):∃cq rc op n s A m c,cs=[.bool false,.string ⟨#[]⟩,.slice cq 0 rc,.int .i64 op,.int .i64 n,.string s,.slice A m c]/\(bB e).rep w P [.int .i64 op,.int .i64 n,.string s,.slice A m c]:=by
 exact tF
theorem hi(h:bw s.data.toList=true):s.size<=1000000:=by
 have:=dW h;have ap:s.size=s.data.toList.length:=rfl;omega
def E9(b:an):Prop:=∀(d deep:Nat) (A:Kj) (n c:Nat) (w:World),fP d b->b.num<=1000000->deep+d<=23->Sl w (ao w) A n (dw b)->
 Calls prog 106 #[.slice A n c,.int .i64 deep] w λe J=>e=.returned (.bool true)/\Ext w J
namespace Bb
theorem tA(h:p:=by
 have U:=ae X;clear Z dI X ch a8 O;go_upto_region 7 with(fail);generalize ba:World.alloc wr _=W;have P:=aY ba;have aK:=aF ba;have z:=ae U.o;have K:=ae (bd.trans P);obtain⟨q,x⟩:=aI P aK;obtain⟨a0,al,af⟩:=aK.two;clear ba P aK d0 d1 d2 d3 d4 d5 d6 d7 d8 d9 d10 U aN
 cases s with
 | set v nm e=>
  obtain⟨G,hex⟩:=ap.o;have az:=ae (show iS nm=true from G);have bH:=hi (show bw nm.data.toList=true from G);have bl:=ae hex;obtain⟨rfl,rfl⟩:=gH z.ref;obtain rfl:0=n1:=z.args.1;obtain rfl:0=n2:=z.th.1;obtain rfl:0=n3:=z.el.1;clear G hex;simp only[aE.kind,aE.name] at *;cases v
  all_goals as_aux_lemma=>
   simp only[Kd,if_false,if_true] at *;go_wp2_with(fail);refine(gz nm _ bH).mono ?_;rintro e aC ⟨rfl,he⟩;have bs:=ae (K.trans he);have l:=ae (q.trans he);have y:=ae (x.aj he);clear he a0 al af K q x;obtain⟨a0,al,af⟩:=y.two;rw[az.o];go_wp2_with(fail);refine(eX e bl.o _ _ _ _ _ _ _ (D.on z.expr (Fr.ext l.o))).mono ?_;rintro e aJ ⟨rfl,he⟩;have aT:=ae (bs.trans he);have E:=ae (l.trans he);have bt:=ae (y.aj he);clear he a0 al af bs l y;obtain⟨a0,al,af⟩:=bt.two;go_wp2_with(fail);refine(gb _ _ _).mono ?_;rintro e aQ ⟨rfl,he⟩;have a4:=ae (aT.trans he);have J:=ae (E.trans he);have cb:=ae (bt.aj he);clear he a0 al af aT E bt;obtain⟨a0,al,af⟩:=cb.two;go_wp2;refine wp_loop_rounds 1 ?_;rw[rounds_succ]
   exact vM
 | call g nm aH=>
  obtain⟨G,aS,hlen⟩:=ap.o;have az:=ae (show iS nm=true from G);have bH:=hi (show bw nm.data.toList=true from G);obtain⟨rfl,rfl,rfl,rfl⟩:=kd z.expr;obtain⟨rfl,rfl⟩:=gH z.ref;have a1:=ae aS;have cH:n1<=1000:=by have:=z.args.1;rw[JM] at this;simp only[aE.args] at this;omega
  obtain rfl:0=n2:=z.th.1;obtain rfl:0=n3:=z.el.1;clear G aS hlen;simp only[aE.kind,aE.name] at *;cases g
  all_goals as_aux_lemma=>
   simp only[Kd,if_false,if_true] at *;go_wp2_with(fail);refine(gz nm _ bH).mono ?_;rintro e aC ⟨rfl,he⟩;have bs:=ae (K.trans he);have l:=ae (q.trans he);have y:=ae (x.aj he);clear he a0 al af K q x;obtain⟨a0,al,af⟩:=y.two;rw[az.o];go_wp2_with(fail);refine(ig _ _ _).mono ?_;rintro e aJ ⟨rfl,he⟩;have aT:=ae (bs.trans he);have E:=ae (l.trans he);have bt:=ae (y.aj he);clear he a0 al af bs l y;obtain⟨a0,al,af⟩:=bt.two;go_wp2_with(fail);refine(gb _ _ _).mono ?_;rintro e aQ ⟨rfl,he⟩;have a4:=ae (aT.trans he);have J:=ae (E.trans he);have cb:=ae (bt.aj he);clear he a0 al af aT E bt;obtain⟨a0,al,af⟩:=cb.two;go_wp2;have aV:=ae (show Sl wr (ao wr) bz n1 (aH.map eg) from z.args);go_loopw [12] (λbM aG=>∃j:Nat,j<=n1/\bM=.int .i64 j/\Ext w aG/\Ext wr aG/\au aG wr.heap.size 185 _) (λbM _=>n1 - (intOf bM).toNat)
   case atStart=>exact⟨0,ad,rfl,a4.o,J.o,cb.o⟩
   case round=>
    obtain⟨j,be,rfl,ar,ay,aK⟩:=hrel;clear a4 J cb a0 al af;obtain⟨a4,J,cb⟩:=eS ar ay aK;obtain⟨a0,al,af⟩:=aK.two;by_cases Y:j<n1
    .obtain⟨ab,dc,a,cs,rfl,aA,X,H,aL,f⟩:=(aV.on (Fr.ext ay)).iG rj Y;have ai:ab<wr.heap.size:=aA;have aR:=ae (a1.o a (JL X))
     cases a with
     | mx r=>
      obtain⟨a6,bh,bq,ac,bn,bp,rfl,ak⟩:=CO H;have f0:=f 0 _ rfl;have f1:=f 1 _ rfl;have f2:=f 2 _ rfl;have f3:=f 3 _ rfl;have f4:=f 4 _ rfl;have f5:=f 5 _ rfl;have f6:=f 6 _ rfl;simp only[JS] at f0;have m:=ae ak;clear f H ak X aL aA ar ay aK;go_upto_region 17 with(fail);generalize hV:World.alloc _ _=V;have T:=aY hV;have hC:=aF hV;have b4:=ae (a4.trans T);have ag:=ae (J.trans T);have br:=ae (cb.aj T);have aw:=ae (D.on m.o (Fr.ext T));have bK:=ae hC;clear T hC hV a0 al af a4 J cb m f0 f1 f2 f3 f4 f5 f6 ai;obtain⟨a0,al,af⟩:=bK.two;go_wp2_with(fail);refine(qp r aR.o _ _ _ _ _ aw.o).mono ?_;rintro bc a9 ⟨rfl,Q⟩;have I:=ae (b4.trans Q);have aP:=ae (ag.trans Q);have ah:=ae (br.aj Q);have bK:=ae (bK.aj Q);clear a0 al af b4 ag br;obtain⟨a0,al,af⟩:=bK.two;go_wp2_with(fail);refine(ig _ _ _).mono ?_
      exact FE
     | ex e=>
      obtain⟨bo,bj,N,bi,a6,bh,am,ac,rfl,ak⟩:=CM H;have f0:=f 0 _ rfl;have f1:=f 1 _ rfl;have f2:=f 2 _ rfl;have f3:=f 3 _ rfl;have f4:=f 4 _ rfl;have f5:=f 5 _ rfl;have f6:=f 6 _ rfl;simp only[JS] at f0;have m:=ae ak;clear f H ak X aL aA ar ay aK;go_upto_region 17 with(fail);generalize hV:World.alloc _ _=V;have T:=aY hV;have hC:=aF hV;have b4:=ae (a4.trans T);have ag:=ae (J.trans T);have br:=ae (cb.aj T);have aw:=ae (D.on m.o (Fr.ext T));have bK:=ae hC;clear T hC hV a0 al af a4 J cb m f0 f1 f2 f3 f4 f5 f6 ai;obtain⟨a0,al,af⟩:=bK.two;go_wp2_with(fail);refine(gb _ _ _).mono ?_;rintro bc a9 ⟨rfl,Q⟩;have I:=ae (b4.trans Q);have aP:=ae (ag.trans Q);have ah:=ae (br.aj Q);have bK:=ae (bK.aj Q);clear a0 al af b4 ag br;obtain⟨a0,al,af⟩:=bK.two;go_wp2_with(fail);refine(eX e aR.o _ _ _ _ _ _ _ (D.on aw.o (Fr.ext Q))).mono ?_;exact FE
    .obtain rfl:j=n1:=ad;clear ar ay aK
     exact vM
 | lock u r=>
  obtain⟨rfl,rfl,rfl,rfl⟩:=kd z.expr;obtain rfl:0=n1:=z.args.1;obtain rfl:0=n2:=z.th.1;obtain rfl:0=n3:=z.el.1;have a2:=ae (show nh r from ap.o);simp only[aE.kind,aE.name] at *;cases u
  all_goals as_aux_lemma=>
   simp only[Kd,if_false,if_true] at *;go_wp2_with(fail);refine(ig _ _ _).mono ?_;rintro e aC ⟨rfl,he⟩;have bs:=ae (K.trans he);have l:=ae (q.trans he);have y:=ae (x.aj he);clear he a0 al af K q x;obtain⟨a0,al,af⟩:=y.two;go_wp2_with(fail);refine(qp r a2.o _ _ _ _ _ (D.on z.ref (Fr.ext l.o))).mono ?_
   exact FF
 | ite e th el=>
  obtain⟨hex,cp,bI,a5,ce⟩:=ap.o;obtain⟨bl,aa,aZ⟩:=eS hex a5 ce;have S:=ae (show deep+1+cp<=23 by have:=M.o;omega);obtain⟨rfl,rfl⟩:=gH z.ref;obtain rfl:0=n1:=z.args.1;clear hex a5 ce bI;simp only[aE.kind,aE.name] at *;as_aux_lemma=>
   go_wp2_with(fail);refine(eX e bl.o _ _ _ _ _ _ _ (D.on z.expr (Fr.ext q.o))).mono ?_;rintro e aC ⟨rfl,he⟩;have bs:=ae (K.trans he);have l:=ae (q.trans he);have y:=ae (x.aj he);clear he a0 al af K q x;obtain⟨a0,al,af⟩:=y.two;go_wp2_with(fail);refine(gb _ _ _).mono ?_;rintro e aJ ⟨rfl,he⟩;have aT:=ae (bs.trans he);have E:=ae (l.trans he);have bt:=ae (y.aj he);clear he a0 al af bs l y;obtain⟨a0,al,af⟩:=bt.two;go_wp2;refine wp_loop_rounds 1 ?_;rw[rounds_succ];go_wp2_with(fail);refine((show E9 th from aM.1) cp (deep+1) _ _ _ _ aa.o (JZ (Nat.le_add_right _ _) i.o) S.o (z.th.on (Fr.ext E.o))).mono ?_;rintro e aQ ⟨rfl,he⟩;have a4:=ae (aT.trans he);have J:=ae (E.trans he);have cb:=ae (bt.aj he);clear he a0 al af aT E bt;obtain⟨a0,al,af⟩:=cb.two;by_cases aD:n3=0
   .subst aD;exact vM
   .have c7:decide ((n3:Int) > 0)=true:=by simp;omega
    go_wp2_with(fail);refine((show E9 el from aM.2) cp (deep+1) _ _ _ _ aZ.o (JZ (Nat.le_add_left _ _) i.o) S.o (z.el.on (Fr.ext J.o))).mono ?_;rintro e bk ⟨rfl,he⟩;have b4:=ae (a4.trans he);have ag:=ae (J.trans he);have br:=ae (cb.aj he);clear he a0 al af a4 J cb;obtain⟨a0,al,af⟩:=br.two;go_wp2;go_roundw
    case rel=>exact⟨k+1,ad,by go_num,b4.o⟩
    case measure=>exact aU
 | fL e th=>
  obtain⟨hex,cp,bI,a5⟩:=ap.o;obtain⟨bl,aa⟩:=aI hex a5;have S:=ae (show deep+1+cp<=23 by have:=M.o;omega);obtain⟨rfl,rfl⟩:=gH z.ref;obtain rfl:0=n1:=z.args.1;obtain rfl:0=n3:=z.el.1;clear hex a5 bI;simp only[aE.kind,aE.name] at *;as_aux_lemma=>
   go_wp2_with(fail);refine(eX e bl.o _ _ _ _ _ _ _ (D.on z.expr (Fr.ext q.o))).mono ?_;rintro e aC ⟨rfl,he⟩;have bs:=ae (K.trans he);have l:=ae (q.trans he);have y:=ae (x.aj he);clear he a0 al af K q x;obtain⟨a0,al,af⟩:=y.two;go_wp2_with(fail);refine(gb _ _ _).mono ?_;rintro e aJ ⟨rfl,he⟩;have aT:=ae (bs.trans he);have E:=ae (l.trans he);have bt:=ae (y.aj he);clear he a0 al af bs l y;obtain⟨a0,al,af⟩:=bt.two;go_wp2;refine wp_loop_rounds 1 ?_;rw[rounds_succ];go_wp2_with(fail);refine((show E9 th from aM.1) cp (deep+1) _ _ _ _ aa.o (JZ (Nat.le_add_right _ _) i.o) S.o (z.th.on (Fr.ext E.o))).mono ?_;rintro e aQ ⟨rfl,he⟩;have a4:=ae (aT.trans he);have J:=ae (E.trans he);have cb:=ae (bt.aj he);clear he a0 al af aT E bt;obtain⟨a0,al,af⟩:=cb.two
   exact vM
 | ret=>
  obtain⟨rfl,rfl,rfl,rfl⟩:=kd z.expr;obtain⟨rfl,rfl⟩:=gH z.ref;obtain rfl:0=n1:=z.args.1;obtain rfl:0=n2:=z.th.1;obtain rfl:0=n3:=z.el.1;simp only[aE.kind,aE.name] at *;as_aux_lemma=>
   go_wp2_with(fail);refine(ig _ _ _).mono ?_;rintro e aC ⟨rfl,he⟩;have bs:=ae (K.trans he);have l:=ae (q.trans he);have y:=ae (x.aj he);clear he a0 al af K q x;obtain⟨a0,al,af⟩:=y.two;go_wp2_with(fail);refine(gb _ _ _).mono ?_;exact FF
 ):p:=h
end Bb
open Bb in
theorem rB(b:an)(R:∀s∈b.list,E9 s.th/\E9 s.el):E9 b:=by
 intro d deep A n c w b2 F aB hs;have hl:b.list.length=n:=by rw[<-hs.1,cD,JM]
 have hn:n<=1000000:=by have:=et b;omega
 have bf:deep<=23:=ad;have a7:decide ((deep:Int)>=24)=false:=by simp;omega
 rw[cD] at hs;obtain⟨bF,ax⟩:=aI hs R;have av:=ae (gf b d b2);have aW:=ae (λs (hs:s∈b.list)=>JZ (Nat.le_of_lt (hW b s hs)) F);have M:=ae aB;clear hs R b2 F hl aB;go_enter func106,ntmps106;go_wp2;go_loopw [5] (λaX wr=>∃k:Nat,k<=n/\aX=.int .i64 k/\Ext w wr) (λaX _=>n - (intOf aX).toNat)
 case atStart=>exact⟨0,ad,rfl,Kf⟩
 case round=>
  obtain⟨k,aj,rfl,ar⟩:=hrel;have bd:=ae ar;clear ar a7;by_cases aq:k<n
  .obtain⟨bb,o,s,cs,rfl,O,ch,dI,a8,Z⟩:=(bF.on (Fr.ext bd.o)).iG mh aq;have aN:bb<wr.heap.size:=O;have ap:=ae (av.o s (JL ch));have aM:=ae (ax.o s (JL ch));have i:=ae (aW.o s (JL ch));obtain⟨eo,en,es,EA,em,ec,rs,cq,b5,rc,bz,n1,c1,bg,n2,c2,bU,n3,c3,rfl,X⟩:=mC dI;exact tz
  .obtain rfl:k=n:=ad;go_wp2;go_ret;exact⟨rfl,bd.o⟩
theorem sF(b:an):E9 b:=an.CE rB b
end Go.Proofs.YtnigabjngpnbiaaGreat

/- Part 21 of the proof. No condition of its own. -/
import Derived.Test.YtpkfopfkdgkfkaaGreatQ19
import Derived.Test.YtpkfopfkdgkfkaaGreatQ20
namespace Go.Proofs.YtpkfopfkdgkfkaaGreat
open Go.RowKit Go.Proofs.Tryz
set_option maxRecDepth 1000000
set_option maxHeartbeats 25600000
set_option linter.unusedVariables false
variable{s:ByteArray}{cs:List Value}{P:Nat->Prop}{p:Prop}{w:World}
theorem kZ{eo en:Int}{es:ByteArray}{EA:Mt}{em ec:Nat}(h:(oD none).rep w P [eo,en,es,.slice EA em ec]):eo=0/\en=0/\es=⟨#[]⟩/\em=0:=by
 obtain⟨A,c,e⟩:=fw.1 h;simp only[List.cons.injEq,Value.int.injEq,Value.string.injEq,Value.slice.injEq,and_true,true_and] at e;exact⟨e.1,e.2.1,e.2.2.1,e.2.2.2.2.1⟩
theorem hB{A:Mt}{n c:Nat}(h:(pT none).rep w P [s,.slice A n c]):s=⟨#[]⟩/\n=0:=by
 unfold pT gj at h;rw[bN,cu] at h;obtain⟨y,e,h⟩:=h;injection e with e1 e2;injection e1 with e1;subst e2;obtain⟨I,a6,aE,cX,e,_,hs,ap⟩:=aO.1 h;injection e with e2 e3;injection e2 with _ e2 _;exact⟨e1,by rw[e2];exact hs.1.symm⟩
theorem En{r:e4}(h:(eU (.mx r)).rep w P cs):∃s A n c EA ec,cs=[.bool true,.string s,.slice A n c,.int .i64 0,.int .i64 0,.string ⟨#[]⟩,.slice EA 0 ec]/\(kL r).rep w P [.string s,.slice A n c]:=by
 exact Hz
namespace Dm
theorem vK(h:p:=by
 obtain⟨A,n,c,bp,rfl,_,hs,aL⟩:=aO.1 hx;rw[aR] at aL;subst aL;obtain rfl:n=0:=hs.1.symm;exact zW
 ):p:=h
end Dm
open Dm in
theorem El{e:VE}(h:(eU (.ex e)).rep w P cs):∃cM rc op n s A m c,cs=[.bool false,.string ⟨#[]⟩,.slice cM 0 rc,.int .i64 op,.int .i64 n,.string s,.slice A m c]/\(bm e).rep w P [.int .i64 op,.int .i64 n,.string s,.slice A m c]:=by
 exact vJ
theorem iu(h:bD s.data.toList=true):s.size<=1000000:=by
 have:=eM h;have ap:s.size=s.data.toList.length:=rfl;omega
def G5(b:ao):Prop:=∀(d deep:Nat) (A:Mt) (n c:Nat) (w:World),gL d b->b.num<=1000000->deep+d<=23->Sl w (aq w) A n (dc b)->
 Calls prog 68 #[.slice A n c,.int .i64 deep] w λe ab=>e=.returned (.bool true)/\Ext w ab
namespace Dn
theorem vE(h:p:=by
 have X:=ae I;clear a4 dQ I cz bh O;go_upto_region 7 with(fail);generalize ba:World.alloc wr _=W;have l:=aU ba;have aQ:=aI ba;have z:=ae X.o;have J:=ae (br.trans l);obtain⟨q,x⟩:=aJ l aQ;obtain⟨a0,ai,af⟩:=aQ.two;clear ba l aQ d0 d1 d2 d3 d4 d5 d6 d7 d8 d9 d10 X a1
 cases s with
 | set v nm e=>
  obtain⟨R,hex⟩:=ak.o;have F:=ae (show jK nm=true from R);have U:=iu (show bD nm.data.toList=true from R);have bv:=ae hex;obtain⟨rfl,rfl⟩:=hB z.ref;obtain rfl:0=n1:=z.args.1;obtain rfl:0=n2:=z.th.1;obtain rfl:0=n3:=z.el.1;clear R hex;simp only[aD.kind,aD.name] at *;cases v
  all_goals as_aux_lemma=>
   simp only[Mm,if_false,if_true] at *;go_wp2_with(fail);refine(hk nm _ U).mono ?_;rintro e aC ⟨rfl,he⟩;have bB:=ae (J.trans he);have m:=ae (q.trans he);have G:=ae (x.aj he);clear he a0 ai af J q x;obtain⟨a0,ai,af⟩:=G.two;rw[F.o];go_wp2_with(fail);refine(fN e bv.o _ _ _ _ _ _ _ (D.on z.expr (Fr.ext m.o))).mono ?_;rintro e aE ⟨rfl,he⟩;have a8:=ae (bB.trans he);have y:=ae (m.trans he);have bz:=ae (G.aj he);clear he a0 ai af bB m G;obtain⟨a0,ai,af⟩:=bz.two;go_wp2_with(fail);refine(gY _ _ _).mono ?_;rintro e aO ⟨rfl,he⟩;have cd:=ae (a8.trans he);have E:=ae (y.trans he);have bf:=ae (bz.aj he);clear he a0 ai af a8 y bz;obtain⟨a0,ai,af⟩:=bf.two;go_wp2;refine wp_loop_rounds 1 ?_;rw[rounds_succ]
   exact xO
 | call g nm aW=>
  obtain⟨R,aL,hlen⟩:=ak.o;have F:=ae (show jK nm=true from R);have U:=iu (show bD nm.data.toList=true from R);obtain⟨rfl,rfl,rfl,rfl⟩:=kZ z.expr;obtain⟨rfl,rfl⟩:=hB z.ref;have ap:=ae aL;have c8:n1<=1000:=by have:=z.args.1;rw[LO] at this;simp only[aD.args] at this;omega
  obtain rfl:0=n2:=z.th.1;obtain rfl:0=n3:=z.el.1;clear R aL hlen;simp only[aD.kind,aD.name] at *;cases g
  all_goals as_aux_lemma=>
   simp only[Mm,if_false,if_true] at *;go_wp2_with(fail);refine(hk nm _ U).mono ?_;rintro e aC ⟨rfl,he⟩;have bB:=ae (J.trans he);have m:=ae (q.trans he);have G:=ae (x.aj he);clear he a0 ai af J q x;obtain⟨a0,ai,af⟩:=G.two;rw[F.o];go_wp2_with(fail);refine(je _ _ _).mono ?_;rintro e aE ⟨rfl,he⟩;have a8:=ae (bB.trans he);have y:=ae (m.trans he);have bz:=ae (G.aj he);clear he a0 ai af bB m G;obtain⟨a0,ai,af⟩:=bz.two;go_wp2_with(fail);refine(gY _ _ _).mono ?_;rintro e aO ⟨rfl,he⟩;have cd:=ae (a8.trans he);have E:=ae (y.trans he);have bf:=ae (bz.aj he);clear he a0 ai af a8 y bz;obtain⟨a0,ai,af⟩:=bf.two;go_wp2;have aR:=ae (show Sl wr (aq wr) cR n1 (aW.map eU) from z.args);go_loopw [12] (λbY bM=>∃j:Nat,j<=n1/\bY=.int .i64 j/\Ext w bM/\Ext wr bM/\au bM wr 151 _) (λbY _=>n1 - (intOf bY).toNat)
   case atStart=>exact⟨0,ad,rfl,cd.o,E.o,bf.o⟩
   case round=>
    obtain⟨j,bd,rfl,aw,ax,aQ⟩:=hrel;clear cd E bf a0 ai af;obtain⟨cd,E,bf⟩:=ef aw ax aQ;obtain⟨a0,ai,af⟩:=aQ.two;by_cases Q:j<n1
    .obtain⟨ab,cQ,a,cs,rfl,az,I,Z,aF,f⟩:=(aR.on (Fr.ext ax)).hf sU Q;have aA:ab<wr:=az;have aP:=ae (ap.o a (LN I))
     cases a with
     | mx r=>
      obtain⟨aX,a7,bl,ac,bi,bk,rfl,ay⟩:=En Z;have f0:=f 0 _ rfl;have f1:=f 1 _ rfl;have f2:=f 2 _ rfl;have f3:=f 3 _ rfl;have f4:=f 4 _ rfl;have f5:=f 5 _ rfl;have f6:=f 6 _ rfl;simp only[LW] at f0;have H:=ae ay;clear f Z ay I aF az aw ax aQ;go_upto_region 17 with(fail);generalize hV:World.alloc _ _=V;have L:=aU hV;have hC:=aI hV;have cj:=ae (cd.trans L);have ah:=ae (E.trans L);have T:=ae (bf.aj L);have av:=ae (D.on H.o (Fr.ext L));have bU:=ae hC;clear L hC hV a0 ai af cd E bf H f0 f1 f2 f3 f4 f5 f6 aA;obtain⟨a0,ai,af⟩:=bU.two;go_wp2_with(fail);refine(rU r aP.o _ _ _ _ _ av.o).mono ?_;rintro a5 a2 ⟨rfl,S⟩;have aa:=ae (cj.trans S);have aN:=ae (ah.trans S);have N:=ae (T.aj S);have bU:=ae (bU.aj S);clear a0 ai af cj ah T;obtain⟨a0,ai,af⟩:=bU.two;go_wp2_with(fail);refine(je _ _ _).mono ?_
      exact Hv
     | ex e=>
      obtain⟨bj,bc,P,a9,aX,a7,am,ac,rfl,ay⟩:=El Z;have f0:=f 0 _ rfl;have f1:=f 1 _ rfl;have f2:=f 2 _ rfl;have f3:=f 3 _ rfl;have f4:=f 4 _ rfl;have f5:=f 5 _ rfl;have f6:=f 6 _ rfl;simp only[LW] at f0;have H:=ae ay;clear f Z ay I aF az aw ax aQ;go_upto_region 17 with(fail);generalize hV:World.alloc _ _=V;have L:=aU hV;have hC:=aI hV;have cj:=ae (cd.trans L);have ah:=ae (E.trans L);have T:=ae (bf.aj L);have av:=ae (D.on H.o (Fr.ext L));have bU:=ae hC;clear L hC hV a0 ai af cd E bf H f0 f1 f2 f3 f4 f5 f6 aA;obtain⟨a0,ai,af⟩:=bU.two;go_wp2_with(fail);refine(gY _ _ _).mono ?_;rintro a5 a2 ⟨rfl,S⟩;have aa:=ae (cj.trans S);have aN:=ae (ah.trans S);have N:=ae (T.aj S);have bU:=ae (bU.aj S);clear a0 ai af cj ah T;obtain⟨a0,ai,af⟩:=bU.two;go_wp2_with(fail);refine(fN e aP.o _ _ _ _ _ _ _ (D.on av.o (Fr.ext S))).mono ?_;exact Hv
    .obtain rfl:j=n1:=ad;clear aw ax aQ
     exact xO
 | lock u r=>
  obtain⟨rfl,rfl,rfl,rfl⟩:=kZ z.expr;obtain rfl:0=n1:=z.args.1;obtain rfl:0=n2:=z.th.1;obtain rfl:0=n3:=z.el.1;have a3:=ae (show oG r from ak.o);simp only[aD.kind,aD.name] at *;cases u
  all_goals as_aux_lemma=>
   simp only[Mm,if_false,if_true] at *;go_wp2_with(fail);refine(je _ _ _).mono ?_;rintro e aC ⟨rfl,he⟩;have bB:=ae (J.trans he);have m:=ae (q.trans he);have G:=ae (x.aj he);clear he a0 ai af J q x;obtain⟨a0,ai,af⟩:=G.two;go_wp2_with(fail);refine(rU r a3.o _ _ _ _ _ (D.on z.ref (Fr.ext m.o))).mono ?_
   exact Hw
 | ite e th el=>
  obtain⟨hex,cx,ce,aM,bn⟩:=ak.o;obtain⟨bv,ag,bp⟩:=ef hex aM bn;have Y:=ae (show deep+1+cx<=23 by have:=b4.o;omega);obtain⟨rfl,rfl⟩:=hB z.ref;obtain rfl:0=n1:=z.args.1;clear hex aM bn ce;simp only[aD.kind,aD.name] at *;as_aux_lemma=>
   go_wp2_with(fail);refine(fN e bv.o _ _ _ _ _ _ _ (D.on z.expr (Fr.ext q.o))).mono ?_;rintro e aC ⟨rfl,he⟩;have bB:=ae (J.trans he);have m:=ae (q.trans he);have G:=ae (x.aj he);clear he a0 ai af J q x;obtain⟨a0,ai,af⟩:=G.two;go_wp2_with(fail);refine(gY _ _ _).mono ?_;rintro e aE ⟨rfl,he⟩;have a8:=ae (bB.trans he);have y:=ae (m.trans he);have bz:=ae (G.aj he);clear he a0 ai af bB m G;obtain⟨a0,ai,af⟩:=bz.two;go_wp2;refine wp_loop_rounds 1 ?_;rw[rounds_succ];go_wp2_with(fail);refine((show G5 th from aK.1) cx (deep+1) _ _ _ _ ag.o (L6 (Nat.le_add_right _ _) i.o) Y.o (z.th.on (Fr.ext y.o))).mono ?_;rintro e aO ⟨rfl,he⟩;have cd:=ae (a8.trans he);have E:=ae (y.trans he);have bf:=ae (bz.aj he);clear he a0 ai af a8 y bz;obtain⟨a0,ai,af⟩:=bf.two;by_cases aV:n3=0
   .subst aV;exact xO
   .have c9:decide ((n3:Int) > 0)=true:=by simp;omega
    go_wp2_with(fail);refine((show G5 el from aK.2) cx (deep+1) _ _ _ _ bp.o (L6 (Nat.le_add_left _ _) i.o) Y.o (z.el.on (Fr.ext E.o))).mono ?_;rintro e be ⟨rfl,he⟩;have cj:=ae (cd.trans he);have ah:=ae (E.trans he);have T:=ae (bf.aj he);clear he a0 ai af cd E bf;obtain⟨a0,ai,af⟩:=T.two;go_wp2;go_roundw
    case rel=>exact⟨k+1,ad,by go_num,cj.o⟩
    case measure=>exact aH
 | gI e th=>
  obtain⟨hex,cx,ce,aM⟩:=ak.o;obtain⟨bv,ag⟩:=aJ hex aM;have Y:=ae (show deep+1+cx<=23 by have:=b4.o;omega);obtain⟨rfl,rfl⟩:=hB z.ref;obtain rfl:0=n1:=z.args.1;obtain rfl:0=n3:=z.el.1;clear hex aM ce;simp only[aD.kind,aD.name] at *;as_aux_lemma=>
   go_wp2_with(fail);refine(fN e bv.o _ _ _ _ _ _ _ (D.on z.expr (Fr.ext q.o))).mono ?_;rintro e aC ⟨rfl,he⟩;have bB:=ae (J.trans he);have m:=ae (q.trans he);have G:=ae (x.aj he);clear he a0 ai af J q x;obtain⟨a0,ai,af⟩:=G.two;go_wp2_with(fail);refine(gY _ _ _).mono ?_;rintro e aE ⟨rfl,he⟩;have a8:=ae (bB.trans he);have y:=ae (m.trans he);have bz:=ae (G.aj he);clear he a0 ai af bB m G;obtain⟨a0,ai,af⟩:=bz.two;go_wp2;refine wp_loop_rounds 1 ?_;rw[rounds_succ];go_wp2_with(fail);refine((show G5 th from aK.1) cx (deep+1) _ _ _ _ ag.o (L6 (Nat.le_add_right _ _) i.o) Y.o (z.th.on (Fr.ext y.o))).mono ?_;rintro e aO ⟨rfl,he⟩;have cd:=ae (a8.trans he);have E:=ae (y.trans he);have bf:=ae (bz.aj he);clear he a0 ai af a8 y bz;obtain⟨a0,ai,af⟩:=bf.two
   exact xO
 | ret=>
  obtain⟨rfl,rfl,rfl,rfl⟩:=kZ z.expr;obtain⟨rfl,rfl⟩:=hB z.ref;obtain rfl:0=n1:=z.args.1;obtain rfl:0=n2:=z.th.1;obtain rfl:0=n3:=z.el.1;simp only[aD.kind,aD.name] at *;as_aux_lemma=>
   go_wp2_with(fail);refine(je _ _ _).mono ?_;rintro e aC ⟨rfl,he⟩;have bB:=ae (J.trans he);have m:=ae (q.trans he);have G:=ae (x.aj he);clear he a0 ai af J q x;obtain⟨a0,ai,af⟩:=G.two;go_wp2_with(fail);refine(gY _ _ _).mono ?_;exact Hw
 ):p:=h
end Dn
open Dn in
theorem te(b:ao)(M:∀s∈b.list,G5 s.th/\G5 s.el):G5 b:=by
 intro d deep A n c w ca K aB hs;have hl:b.list.length=n:=by rw[<-hs.1,cK,LO]
 have hn:n<=1000000:=by have:=fa b;omega
 have a6:deep<=23:=ad;have aZ:decide ((deep:Int)>=24)=false:=by simp;omega
 rw[cK] at hs;obtain⟨bt,al⟩:=aJ hs M;have aY:=ae (g0 b d ca);have aS:=ae (λs (hs:s∈b.list)=>L6 (Nat.le_of_lt (iJ b s hs)) K);have b4:=ae aB;clear hs M ca K hl aB;go_enter func68,ntmps68;go_wp2;go_loopw [5] (λbH wr=>∃k:Nat,k<=n/\bH=.int .i64 k/\Ext w wr) (λbH _=>n - (intOf bH).toNat)
 case atStart=>exact⟨0,ad,rfl,Mo⟩
 case round=>
  obtain⟨k,aj,rfl,aw⟩:=hrel;have br:=ae aw;clear aw aZ;by_cases an:k<n
  .obtain⟨bb,o,s,cs,rfl,O,cz,dQ,bh,a4⟩:=(bt.on (Fr.ext br.o)).hf nu an;have a1:bb<wr:=O;have ak:=ae (aY.o s (LN cz));have aK:=ae (al.o s (LN cz));have i:=ae (aS.o s (LN cz));obtain⟨eo,en,es,EA,em,ec,rs,cM,di,rc,cR,n1,c1,A2,n2,c2,cC,n3,c3,rfl,I⟩:=lx dQ;exact vD
  .obtain rfl:k=n:=ad;go_wp2;go_ret;exact⟨rfl,br.o⟩
theorem uy(b:ao):G5 b:=ao.Ec te b
end Go.Proofs.YtpkfopfkdgkfkaaGreat

/- Part 14 of the proof. No condition of its own. -/
import Derived.Test.YtnigabjngpnbiabGreatF13
namespace Go.Proofs.YtnigabjngpnbiabGreat
open Go.RowKit Go.Proofs.Tryz
set_option maxRecDepth 1000000
set_option maxHeartbeats 25600000
set_option linter.unusedVariables false
variable{s:ByteArray}{cs:List Value}{P:Nat->Prop}{p:Prop}{w:World}
theorem lg{eo en:Int}{es:ByteArray}{EA:NH}{em ec:Nat}(h:(o9 none).rep w P [eo,en,es,.slice EA em ec]):eo=0/\en=0/\es=⟨#[]⟩/\em=0:=by
 obtain⟨A,c,e⟩:=fy.1 h;simp only[List.cons.injEq,Value.int.injEq,Value.string.injEq,Value.slice.injEq,and_true,true_and] at e;exact⟨e.1,e.2.1,e.2.2.1,e.2.2.2.2.1⟩
theorem hY{A:NH}{n c:Nat}(h:(qp none).rep w P [s,.slice A n c]):s=⟨#[]⟩/\n=0:=by
 unfold qp gv at h;rw[bK,cx] at h;obtain⟨y,e,h⟩:=h;injection e with e1 e2;injection e1 with e1;subst e2;obtain⟨I,a6,aD,cf,e,_,hs,az⟩:=aN.1 h;injection e with e2 e3;injection e2 with _ e2 _;exact⟨e1,by rw[e2];exact hs.1.symm⟩
theorem EV{r:eY}(h:(eP (.mx r)).rep w P cs):∃s A n c EA ec,cs=[.bool true,.string s,.slice A n c,.int .i64 0,.int .i64 0,.string ⟨#[]⟩,.slice EA 0 ec]/\(kW r).rep w P [.string s,.slice A n c]:=by
 exact Ik
namespace Dn
theorem wM(h:p:=by
 obtain⟨A,n,c,cB,rfl,_,hs,aI⟩:=aN.1 hx;rw[aR] at aI;subst aI;obtain rfl:n=0:=hs.1.symm;exact AK
 ):p:=h
end Dn
open Dn in
theorem ET{e:VE}(h:(eP (.ex e)).rep w P cs):∃cr rc op n s A m c,cs=[.bool false,.string ⟨#[]⟩,.slice cr 0 rc,.int .i64 op,.int .i64 n,.string s,.slice A m c]/\(bo e).rep w P [.int .i64 op,.int .i64 n,.string s,.slice A m c]:=by
 exact wL
theorem iE(h:bB s.data.toList=true):s.size<=1000000:=by
 have:=eH h;have az:s.size=s.data.toList.length:=rfl;omega
def HQ(b:al):Prop:=∀(d deep:Nat) (A:NH) (n c:Nat) (w:World),gR d b->b.num<=1000000->deep+d<=23->Sl w (av w) A n (dc b)->
 Calls prog 81 #[.slice A n c,.int .i64 deep] w λe ab=>e=.returned (.bool true)/\Ext w ab
namespace Dp
theorem wG(h:p:=by
 have P:=ae I;clear Z dQ I cf bu O;go_upto_region 7 with(fail);generalize be:World.alloc wr _=W;have R:=aX be;have aT:=aL be;have z:=ae P.o;have E:=ae (bk.trans R);obtain⟨q,x⟩:=aJ R aT;obtain⟨a0,ak,af⟩:=aT.two;clear be R aT d0 d1 d2 d3 d4 d5 d6 d7 d8 d9 d10 P aZ
 cases s with
 | set v nm e=>
  obtain⟨aa,hex⟩:=aA.o;have Q:=ae (show jX nm=true from aa);have U:=iE (show bB nm.data.toList=true from aa);have a6:=ae hex;obtain⟨rfl,rfl⟩:=hY z.ref;obtain rfl:0=n1:=z.args.1;obtain rfl:0=n2:=z.th.1;obtain rfl:0=n3:=z.el.1;clear aa hex;simp only[aB.kind,aB.name] at *;cases v
  all_goals as_aux_lemma=>
   simp only[Nz,if_false,if_true] at *;go_wp2_with(fail);refine(hB nm _ U).mono ?_;rintro e aC ⟨rfl,he⟩;have bw:=ae (E.trans he);have l:=ae (q.trans he);have G:=ae (x.aj he);clear he a0 ak af E q x;obtain⟨a0,ak,af⟩:=G.two;rw[Q.o];go_wp2_with(fail);refine(fL e a6.o _ _ _ _ _ _ _ (D.on z.expr (Fr.ext l.o))).mono ?_;rintro e az ⟨rfl,he⟩;have a8:=ae (bw.trans he);have m:=ae (l.trans he);have cb:=ae (G.aj he);clear he a0 ak af bw l G;obtain⟨a0,ak,af⟩:=cb.two;go_wp2_with(fail);refine(g7 _ _ _).mono ?_;rintro e aO ⟨rfl,he⟩;have a4:=ae (a8.trans he);have y:=ae (m.trans he);have cm:=ae (cb.aj he);clear he a0 ak af a8 m cb;obtain⟨a0,ak,af⟩:=cm.two;go_wp2;refine wp_loop_rounds 1 ?_;rw[rounds_succ]
   exact yr
 | call g nm aY=>
  obtain⟨aa,aI,hlen⟩:=aA.o;have Q:=ae (show jX nm=true from aa);have U:=iE (show bB nm.data.toList=true from aa);obtain⟨rfl,rfl,rfl,rfl⟩:=lg z.expr;obtain⟨rfl,rfl⟩:=hY z.ref;have ax:=ae aI;have c5:n1<=1000:=by have:=z.args.1;rw[M5] at this;simp only[aB.args] at this;omega
  obtain rfl:0=n2:=z.th.1;obtain rfl:0=n3:=z.el.1;clear aa aI hlen;simp only[aB.kind,aB.name] at *;cases g
  all_goals as_aux_lemma=>
   simp only[Nz,if_false,if_true] at *;go_wp2_with(fail);refine(hB nm _ U).mono ?_;rintro e aC ⟨rfl,he⟩;have bw:=ae (E.trans he);have l:=ae (q.trans he);have G:=ae (x.aj he);clear he a0 ak af E q x;obtain⟨a0,ak,af⟩:=G.two;rw[Q.o];go_wp2_with(fail);refine(jt _ _ _).mono ?_;rintro e az ⟨rfl,he⟩;have a8:=ae (bw.trans he);have m:=ae (l.trans he);have cb:=ae (G.aj he);clear he a0 ak af bw l G;obtain⟨a0,ak,af⟩:=cb.two;go_wp2_with(fail);refine(g7 _ _ _).mono ?_;rintro e aO ⟨rfl,he⟩;have a4:=ae (a8.trans he);have y:=ae (m.trans he);have cm:=ae (cb.aj he);clear he a0 ak af a8 m cb;obtain⟨a0,ak,af⟩:=cm.two;go_wp2;have aQ:=ae (show Sl wr (av wr) cR n1 (aY.map eP) from z.args);go_loopw [12] (λbj b7=>∃j:Nat,j<=n1/\bj=.int .i64 j/\Ext w b7/\Ext wr b7/\an b7 wr 175 _) (λbj _=>n1 - (intOf bj).toNat)
   case atStart=>exact⟨0,ad,rfl,a4.o,y.o,cm.o⟩
   case round=>
    obtain⟨j,bi,rfl,aF,aq,aT⟩:=hrel;clear a4 y cm a0 ak af;obtain⟨a4,y,cm⟩:=eU aF aq aT;obtain⟨a0,ak,af⟩:=aT.two;by_cases X:j<n1
    .obtain⟨ab,cC,a,cs,rfl,au,I,S,aE,f⟩:=(aQ.on (Fr.ext aq)).g1 tx X;have H:ab<wr:=au;have aP:=ae (ax.o a (M4 I))
     cases a with
     | mx r=>
      obtain⟨aW,a9,bm,ac,bg,bl,rfl,ah⟩:=EV S;have f0:=f 0 _ rfl;have f1:=f 1 _ rfl;have f2:=f 2 _ rfl;have f3:=f 3 _ rfl;have f4:=f 4 _ rfl;have f5:=f 5 _ rfl;have f6:=f 6 _ rfl;simp only[Nd] at f0;have bA:=ae ah;clear f S ah I aE au aF aq aT;go_upto_region 17 with(fail);generalize hV:World.alloc _ _=V;have ai:=aX hV;have hC:=aL hV;have bQ:=ae (a4.trans ai);have ag:=ae (y.trans ai);have cn:=ae (cm.aj ai);have aK:=ae (D.on bA.o (Fr.ext ai));have bY:=ae hC;clear ai hC hV a0 ak af a4 y cm bA f0 f1 f2 f3 f4 f5 f6 H;obtain⟨a0,ak,af⟩:=bY.two;go_wp2_with(fail);refine(sC r aP.o _ _ _ _ _ aK.o).mono ?_;rintro a5 a2 ⟨rfl,T⟩;have F:=ae (bQ.trans T);have aN:=ae (ag.trans T);have aw:=ae (cn.aj T);have bY:=ae (bY.aj T);clear a0 ak af bQ ag cn;obtain⟨a0,ak,af⟩:=bY.two;go_wp2_with(fail);refine(jt _ _ _).mono ?_
      exact Ih
     | ex e=>
      obtain⟨bh,bc,J,ba,aW,a9,am,ac,rfl,ah⟩:=ET S;have f0:=f 0 _ rfl;have f1:=f 1 _ rfl;have f2:=f 2 _ rfl;have f3:=f 3 _ rfl;have f4:=f 4 _ rfl;have f5:=f 5 _ rfl;have f6:=f 6 _ rfl;simp only[Nd] at f0;have bA:=ae ah;clear f S ah I aE au aF aq aT;go_upto_region 17 with(fail);generalize hV:World.alloc _ _=V;have ai:=aX hV;have hC:=aL hV;have bQ:=ae (a4.trans ai);have ag:=ae (y.trans ai);have cn:=ae (cm.aj ai);have aK:=ae (D.on bA.o (Fr.ext ai));have bY:=ae hC;clear ai hC hV a0 ak af a4 y cm bA f0 f1 f2 f3 f4 f5 f6 H;obtain⟨a0,ak,af⟩:=bY.two;go_wp2_with(fail);refine(g7 _ _ _).mono ?_;rintro a5 a2 ⟨rfl,T⟩;have F:=ae (bQ.trans T);have aN:=ae (ag.trans T);have aw:=ae (cn.aj T);have bY:=ae (bY.aj T);clear a0 ak af bQ ag cn;obtain⟨a0,ak,af⟩:=bY.two;go_wp2_with(fail);refine(fL e aP.o _ _ _ _ _ _ _ (D.on aK.o (Fr.ext T))).mono ?_;exact Ih
    .obtain rfl:j=n1:=ad;clear aF aq aT
     exact yr
 | lock u r=>
  obtain⟨rfl,rfl,rfl,rfl⟩:=lg z.expr;obtain rfl:0=n1:=z.args.1;obtain rfl:0=n2:=z.th.1;obtain rfl:0=n3:=z.el.1;have a3:=ae (show pa r from aA.o);simp only[aB.kind,aB.name] at *;cases u
  all_goals as_aux_lemma=>
   simp only[Nz,if_false,if_true] at *;go_wp2_with(fail);refine(jt _ _ _).mono ?_;rintro e aC ⟨rfl,he⟩;have bw:=ae (E.trans he);have l:=ae (q.trans he);have G:=ae (x.aj he);clear he a0 ak af E q x;obtain⟨a0,ak,af⟩:=G.two;go_wp2_with(fail);refine(sC r a3.o _ _ _ _ _ (D.on z.ref (Fr.ext l.o))).mono ?_
   exact Ii
 | ite e th el=>
  obtain⟨hex,cw,ce,bq,aR⟩:=aA.o;obtain⟨a6,Y,bz⟩:=eU hex bq aR;have N:=ae (show deep+1+cw<=23 by have:=dS.o;omega);obtain⟨rfl,rfl⟩:=hY z.ref;obtain rfl:0=n1:=z.args.1;clear hex bq aR ce;simp only[aB.kind,aB.name] at *;as_aux_lemma=>
   go_wp2_with(fail);refine(fL e a6.o _ _ _ _ _ _ _ (D.on z.expr (Fr.ext q.o))).mono ?_;rintro e aC ⟨rfl,he⟩;have bw:=ae (E.trans he);have l:=ae (q.trans he);have G:=ae (x.aj he);clear he a0 ak af E q x;obtain⟨a0,ak,af⟩:=G.two;go_wp2_with(fail);refine(g7 _ _ _).mono ?_;rintro e az ⟨rfl,he⟩;have a8:=ae (bw.trans he);have m:=ae (l.trans he);have cb:=ae (G.aj he);clear he a0 ak af bw l G;obtain⟨a0,ak,af⟩:=cb.two;go_wp2;refine wp_loop_rounds 1 ?_;rw[rounds_succ];go_wp2_with(fail);refine((show HQ th from aM.1) cw (deep+1) _ _ _ _ Y.o (Nl (Nat.le_add_right _ _) i.o) N.o (z.th.on (Fr.ext m.o))).mono ?_;rintro e aO ⟨rfl,he⟩;have a4:=ae (a8.trans he);have y:=ae (m.trans he);have cm:=ae (cb.aj he);clear he a0 ak af a8 m cb;obtain⟨a0,ak,af⟩:=cm.two;by_cases aV:n3=0
   .subst aV;exact yr
   .have de:decide ((n3:Int) > 0)=true:=by simp;omega
    go_wp2_with(fail);refine((show HQ el from aM.2) cw (deep+1) _ _ _ _ bz.o (Nl (Nat.le_add_left _ _) i.o) N.o (z.el.on (Fr.ext y.o))).mono ?_;rintro e bd ⟨rfl,he⟩;have bQ:=ae (a4.trans he);have ag:=ae (y.trans he);have cn:=ae (cm.aj he);clear he a0 ak af a4 y cm;obtain⟨a0,ak,af⟩:=cn.two;go_wp2;go_roundw
    case rel=>exact⟨k+1,ad,by go_num,bQ.o⟩
    case measure=>exact aH
 | gM e th=>
  obtain⟨hex,cw,ce,bq⟩:=aA.o;obtain⟨a6,Y⟩:=aJ hex bq;have N:=ae (show deep+1+cw<=23 by have:=dS.o;omega);obtain⟨rfl,rfl⟩:=hY z.ref;obtain rfl:0=n1:=z.args.1;obtain rfl:0=n3:=z.el.1;clear hex bq ce;simp only[aB.kind,aB.name] at *;as_aux_lemma=>
   go_wp2_with(fail);refine(fL e a6.o _ _ _ _ _ _ _ (D.on z.expr (Fr.ext q.o))).mono ?_;rintro e aC ⟨rfl,he⟩;have bw:=ae (E.trans he);have l:=ae (q.trans he);have G:=ae (x.aj he);clear he a0 ak af E q x;obtain⟨a0,ak,af⟩:=G.two;go_wp2_with(fail);refine(g7 _ _ _).mono ?_;rintro e az ⟨rfl,he⟩;have a8:=ae (bw.trans he);have m:=ae (l.trans he);have cb:=ae (G.aj he);clear he a0 ak af bw l G;obtain⟨a0,ak,af⟩:=cb.two;go_wp2;refine wp_loop_rounds 1 ?_;rw[rounds_succ];go_wp2_with(fail);refine((show HQ th from aM.1) cw (deep+1) _ _ _ _ Y.o (Nl (Nat.le_add_right _ _) i.o) N.o (z.th.on (Fr.ext m.o))).mono ?_;rintro e aO ⟨rfl,he⟩;have a4:=ae (a8.trans he);have y:=ae (m.trans he);have cm:=ae (cb.aj he);clear he a0 ak af a8 m cb;obtain⟨a0,ak,af⟩:=cm.two
   exact yr
 | ret=>
  obtain⟨rfl,rfl,rfl,rfl⟩:=lg z.expr;obtain⟨rfl,rfl⟩:=hY z.ref;obtain rfl:0=n1:=z.args.1;obtain rfl:0=n2:=z.th.1;obtain rfl:0=n3:=z.el.1;simp only[aB.kind,aB.name] at *;as_aux_lemma=>
   go_wp2_with(fail);refine(jt _ _ _).mono ?_;rintro e aC ⟨rfl,he⟩;have bw:=ae (E.trans he);have l:=ae (q.trans he);have G:=ae (x.aj he);clear he a0 ak af E q x;obtain⟨a0,ak,af⟩:=G.two;go_wp2_with(fail);refine(g7 _ _ _).mono ?_;exact Ii
 ):p:=h
end Dp
open Dp in
theorem tT(b:al)(M:∀s∈b.list,HQ s.th/\HQ s.el):HQ b:=by
 intro d deep A n c w ca K ay hs;have hl:b.list.length=n:=by rw[<-hs.1,cM,M5]
 have hn:n<=1000000:=by have:=fh b;omega
 have a7:deep<=23:=ad;have a1:decide ((deep:Int)>=24)=false:=by simp;omega
 rw[cM] at hs;obtain⟨bH,ao⟩:=aJ hs M;have aD:=ae (g9 b d ca);have aS:=ae (λs (hs:s∈b.list)=>Nl (Nat.le_of_lt (iU b s hs)) K);have dS:=ae ay;clear hs M ca K hl ay;go_enter func81,ntmps81;go_wp2;go_loopw [5] (λL wr=>∃k:Nat,k<=n/\L=.int .i64 k/\Ext w wr) (λL _=>n - (intOf L).toNat)
 case atStart=>exact⟨0,ad,rfl,NC⟩
 case round=>
  obtain⟨k,aj,rfl,aF⟩:=hrel;have bk:=ae aF;clear aF a1;by_cases ap:k<n
  .obtain⟨bb,o,s,cs,rfl,O,cf,dQ,bu,Z⟩:=(bH.on (Fr.ext bk.o)).g1 nR ap;have aZ:bb<wr:=O;have aA:=ae (aD.o s (M4 cf));have aM:=ae (ao.o s (M4 cf));have i:=ae (aS.o s (M4 cf));obtain⟨eo,en,es,EA,em,ec,rs,cr,b5,rc,cR,n1,c1,A2,n2,c2,cu,n3,c3,rfl,I⟩:=lN dQ;exact wF
  .obtain rfl:k=n:=ad;go_wp2;go_ret;exact⟨rfl,bk.o⟩
theorem vq(b:al):HQ b:=al.EI tT b
end Go.Proofs.YtnigabjngpnbiabGreat

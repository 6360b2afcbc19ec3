/- Part 17 of the proof. No condition of its own. -/
import Derived.Test.YtajlmkkidmjgoaaGreatDoorQ13
import Derived.Test.YtajlmkkidmjgoaaGreatDoorQ16
namespace Go.Proofs.YtajlmkkidmjgoaaGreatDoor
open Go.RowKit Go.Proofs.Tryz
set_option maxRecDepth 1000000
set_option maxHeartbeats 25600000
set_option linter.unusedVariables false
variable{s:ByteArray}{cs:List Value}{P:Nat->Prop}{p:Prop}{w:World}
theorem kt{eo en:Int}{es:ByteArray}{EA:IP}{em ec:Nat}(h:(nP none).rep w P [.int .i64 eo,.int .i64 en,.string es,.slice EA em ec]):eo=0/\en=0/\es=⟨#[]⟩/\em=0:=by
 obtain⟨A,c,e⟩:=eP.1 h;simp only[List.cons.injEq,Value.int.injEq,Value.string.injEq,Value.slice.injEq,and_true,true_and] at e;exact⟨e.1,e.2.1,e.2.2.1,e.2.2.2.2.1⟩
theorem gS{A:IP}{n c:Nat}(h:(oM none).rep w P [.string s,.slice A n c]):s=⟨#[]⟩/\n=0:=by
 unfold oM fJ at h;rw[bw,b9] at h;obtain⟨y,e,h⟩:=h;injection e with e1 e2;injection e1 with e1;subst e2;obtain⟨aE,a0,L,bp,e,_,hs,J⟩:=aA.1 h;injection e with e2 e3;injection e2 with _ e2 _;exact⟨e1,by rw[e2];exact hs.1.symm⟩
theorem AY{r:eC}(h:(ep (.mx r)).rep w P cs):∃s A n c EA ec,cs=[.bool true,.string s,.slice A n c,.int .i64 0,.int .i64 0,.string ⟨#[]⟩,.slice EA 0 ec]/\(j9 r).rep w P [.string s,.slice A n c]:=by
 exact DU
namespace zQ
theorem tJ(h:p:=by
 obtain⟨A,n,c,a5,rfl,_,hs,bi⟩:=aA.1 hx;rw[aM] at bi;subst bi;obtain rfl:n=0:=hs.1.symm;exact x2
 ):p:=h
end zQ
open zQ in
theorem AW{e:VE}(h:(ep (.ex e)).rep w P cs):∃ce rc op n s A m c,cs=[.bool false,.string ⟨#[]⟩,.slice ce 0 rc,.int .i64 op,.int .i64 n,.string s,.slice A m c]/\(a7 e).rep w P [.int .i64 op,.int .i64 n,.string s,.slice A m c]:=by
 exact tI
theorem hv(h:br s.data.toList=true):s.size<=1000000:=by
 have:=ef h;have J:s.size=s.data.toList.length:=rfl;omega
def DD(b:ak):Prop:=∀(d deep:Nat) (A:IP) (n c:Nat) (w:World),gd d b->b.num<=1000000->deep+d<=23->Sl w (av w) A n (cL b)->
 Calls prog 51 #[.slice A n c,.int .i64 deep] w λe ab=>e=.returned (.bool true)/\Ext w ab
namespace zR
theorem tD(h:p:=by
 have S:=ae E;clear Z dT E b1 bd O;go_upto_region 7 with(fail);generalize ba:World.alloc wr _=W;have l:=bm ba;have aS:=aU ba;have z:=ae S.o;have J:=ae (bf.trans l);obtain⟨q,x⟩:=aN l aS;obtain⟨aI,aj,af⟩:=aS.two;clear ba l aS d0 d1 d2 d3 d4 d5 d6 d7 d8 d9 d10 S aX
 cases s with
 | set v nm e=>
  obtain⟨I,hex⟩:=au.o;have ag:=ae (show ja nm=true from I);have bT:=hv (show br nm.data.toList=true from I);have bq:=ae hex;obtain⟨rfl,rfl⟩:=gS z.ref;obtain rfl:0=n1:=z.args.1;obtain rfl:0=cd:=z.th.1;obtain rfl:0=bY:=z.el.1;clear I hex;simp only[ay.kind,ay.name] at *;cases v
  all_goals as_aux_lemma=>
   simp only[II,if_false,if_true] at *;go_wp2_with(fail);refine(gJ nm _ bT).mono ?_;rintro e aE ⟨rfl,he⟩;have bh:=ae (J.trans he);have m:=ae (q.trans he);have G:=ae (x.aj he);clear he aI aj af J q x;obtain⟨aI,aj,af⟩:=G.two;rw[ag.o];go_wp2_with(fail);refine(e5 e bq.o _ _ _ _ _ _ _ (D.on z.expr (Fr.ext m.o))).mono ?_;rintro e aG ⟨rfl,he⟩;have a3:=ae (bh.trans he);have y:=ae (m.trans he);have b6:=ae (G.aj he);clear he aI aj af bh m G;obtain⟨aI,aj,af⟩:=b6.two;go_wp2_with(fail);refine(gu _ _ _).mono ?_;rintro e aO ⟨rfl,he⟩;have bl:=ae (a3.trans he);have F:=ae (y.trans he);have bI:=ae (b6.aj he);clear he aI aj af a3 y b6;obtain⟨aI,aj,af⟩:=bI.two;go_wp2;refine wp_loop_rounds 1 ?_;rw[rounds_succ]
   exact vH
 | call g nm aJ=>
  obtain⟨I,cw,hlen⟩:=au.o;have ag:=ae (show ja nm=true from I);have bT:=hv (show br nm.data.toList=true from I);obtain⟨rfl,rfl,rfl,rfl⟩:=kt z.expr;obtain⟨rfl,rfl⟩:=gS z.ref;have aq:=ae cw;have cM:n1<=1000:=by have:=z.args.1;rw[Ib] at this;simp only[ay.args] at this;omega
  obtain rfl:0=cd:=z.th.1;obtain rfl:0=bY:=z.el.1;clear I cw hlen;simp only[ay.kind,ay.name] at *;cases g
  all_goals as_aux_lemma=>
   simp only[II,if_false,if_true] at *;go_wp2_with(fail);refine(gJ nm _ bT).mono ?_;rintro e aE ⟨rfl,he⟩;have bh:=ae (J.trans he);have m:=ae (q.trans he);have G:=ae (x.aj he);clear he aI aj af J q x;obtain⟨aI,aj,af⟩:=G.two;rw[ag.o];go_wp2_with(fail);refine(iu _ _ _).mono ?_;rintro e aG ⟨rfl,he⟩;have a3:=ae (bh.trans he);have y:=ae (m.trans he);have b6:=ae (G.aj he);clear he aI aj af bh m G;obtain⟨aI,aj,af⟩:=b6.two;go_wp2_with(fail);refine(gu _ _ _).mono ?_;rintro e aO ⟨rfl,he⟩;have bl:=ae (a3.trans he);have F:=ae (y.trans he);have bI:=ae (b6.aj he);clear he aI aj af a3 y b6;obtain⟨aI,aj,af⟩:=bI.two;go_wp2;have aQ:=ae (show Sl wr (av wr) cF n1 (aJ.map ep) from z.args);go_loopw [12] (λa6 bD=>∃j:Nat,j<=n1/\a6=.int .i64 j/\Ext w bD/\Ext wr bD/\an bD wr.heap.size 153 _) (λa6 _=>n1 - (intOf a6).toNat)
   case atStart=>exact⟨0,ad,rfl,bl.o,F.o,bI.o⟩
   case round=>
    obtain⟨j,a1,rfl,aw,aA,aS⟩:=hrel;clear bl F bI aI aj af;obtain⟨bl,F,bI⟩:=eD aw aA aS;obtain⟨aI,aj,af⟩:=aS.two;by_cases Y:j<n1
    .obtain⟨ab,dd,a,cs,rfl,aB,E,L,aH,f⟩:=(aQ.on (Fr.ext aA)).gH ra Y;have ax:ab<wr.heap.size:=aB;have aP:=ae (aq.o a (Ia E))
     cases a with
     | mx r=>
      obtain⟨aW,a5,bn,ac,bg,bk,rfl,U⟩:=AY L;have f0:=f 0 _ rfl;have f1:=f 1 _ rfl;have f2:=f 2 _ rfl;have f3:=f 3 _ rfl;have f4:=f 4 _ rfl;have f5:=f 5 _ rfl;have f6:=f 6 _ rfl;simp only[Ij] at f0;have H:=ae U;clear f L U E aH aB aw aA aS;go_upto_region 17 with(fail);generalize hV:World.alloc _ _=V;have T:=bm hV;have hC:=aU hV;have cv:=ae (bl.trans T);have ai:=ae (F.trans T);have cG:=ae (bI.aj T);have az:=ae (D.on H.o (Fr.ext T));have bP:=ae hC;clear T hC hV aI aj af bl F bI H f0 f1 f2 f3 f4 f5 f6 ax;obtain⟨aI,aj,af⟩:=bP.two;go_wp2_with(fail);refine(qz r aP.o _ _ _ _ _ az.o).mono ?_;rintro a2 aZ ⟨rfl,R⟩;have X:=ae (cv.trans R);have aM:=ae (ai.trans R);have ao:=ae (cG.aj R);have bP:=ae (bP.aj R);clear aI aj af cv ai cG;obtain⟨aI,aj,af⟩:=bP.two;go_wp2_with(fail);refine(iu _ _ _).mono ?_
      exact DQ
     | ex e=>
      obtain⟨bj,a9,N,a7,aW,a5,am,ac,rfl,U⟩:=AW L;have f0:=f 0 _ rfl;have f1:=f 1 _ rfl;have f2:=f 2 _ rfl;have f3:=f 3 _ rfl;have f4:=f 4 _ rfl;have f5:=f 5 _ rfl;have f6:=f 6 _ rfl;simp only[Ij] at f0;have H:=ae U;clear f L U E aH aB aw aA aS;go_upto_region 17 with(fail);generalize hV:World.alloc _ _=V;have T:=bm hV;have hC:=aU hV;have cv:=ae (bl.trans T);have ai:=ae (F.trans T);have cG:=ae (bI.aj T);have az:=ae (D.on H.o (Fr.ext T));have bP:=ae hC;clear T hC hV aI aj af bl F bI H f0 f1 f2 f3 f4 f5 f6 ax;obtain⟨aI,aj,af⟩:=bP.two;go_wp2_with(fail);refine(gu _ _ _).mono ?_;rintro a2 aZ ⟨rfl,R⟩;have X:=ae (cv.trans R);have aM:=ae (ai.trans R);have ao:=ae (cG.aj R);have bP:=ae (bP.aj R);clear aI aj af cv ai cG;obtain⟨aI,aj,af⟩:=bP.two;go_wp2_with(fail);refine(e5 e aP.o _ _ _ _ _ _ _ (D.on az.o (Fr.ext R))).mono ?_;exact DQ
    .obtain rfl:j=n1:=ad;clear aw aA aS
     exact vH
 | lock u r=>
  obtain⟨rfl,rfl,rfl,rfl⟩:=kt z.expr;obtain rfl:0=n1:=z.args.1;obtain rfl:0=cd:=z.th.1;obtain rfl:0=bY:=z.el.1;have a8:=ae (show nR r from au.o);simp only[ay.kind,ay.name] at *;cases u
  all_goals as_aux_lemma=>
   simp only[II,if_false,if_true] at *;go_wp2_with(fail);refine(iu _ _ _).mono ?_;rintro e aE ⟨rfl,he⟩;have bh:=ae (J.trans he);have m:=ae (q.trans he);have G:=ae (x.aj he);clear he aI aj af J q x;obtain⟨aI,aj,af⟩:=G.two;go_wp2_with(fail);refine(qz r a8.o _ _ _ _ _ (D.on z.ref (Fr.ext m.o))).mono ?_
   exact DR
 | ite e th el=>
  obtain⟨hex,cm,b7,bi,b2⟩:=au.o;obtain⟨bq,aa,Q⟩:=eD hex bi b2;have P:=ae (show deep+1+cm<=23 by have:=eK.o;omega);obtain⟨rfl,rfl⟩:=gS z.ref;obtain rfl:0=n1:=z.args.1;clear hex bi b2 b7;simp only[ay.kind,ay.name] at *;as_aux_lemma=>
   go_wp2_with(fail);refine(e5 e bq.o _ _ _ _ _ _ _ (D.on z.expr (Fr.ext q.o))).mono ?_;rintro e aE ⟨rfl,he⟩;have bh:=ae (J.trans he);have m:=ae (q.trans he);have G:=ae (x.aj he);clear he aI aj af J q x;obtain⟨aI,aj,af⟩:=G.two;go_wp2_with(fail);refine(gu _ _ _).mono ?_;rintro e aG ⟨rfl,he⟩;have a3:=ae (bh.trans he);have y:=ae (m.trans he);have b6:=ae (G.aj he);clear he aI aj af bh m G;obtain⟨aI,aj,af⟩:=b6.two;go_wp2;refine wp_loop_rounds 1 ?_;rw[rounds_succ];go_wp2_with(fail);refine((show DD th from aK.1) cm (deep+1) _ _ _ _ aa.o (Ir (Nat.le_add_right _ _) i.o) P.o (z.th.on (Fr.ext y.o))).mono ?_;rintro e aO ⟨rfl,he⟩;have bl:=ae (a3.trans he);have F:=ae (y.trans he);have bI:=ae (b6.aj he);clear he aI aj af a3 y b6;obtain⟨aI,aj,af⟩:=bI.two;by_cases aR:bY=0
   .subst aR;exact vH
   .have dg:decide ((bY:Int) > 0)=true:=by simp;omega
    go_wp2_with(fail);refine((show DD el from aK.2) cm (deep+1) _ _ _ _ Q.o (Ir (Nat.le_add_left _ _) i.o) P.o (z.el.on (Fr.ext F.o))).mono ?_;rintro e bc ⟨rfl,he⟩;have cv:=ae (bl.trans he);have ai:=ae (F.trans he);have cG:=ae (bI.aj he);clear he aI aj af bl F bI;obtain⟨aI,aj,af⟩:=cG.two;go_wp2;go_roundw
    case rel=>exact⟨k+1,ad,by go_num,cv.o⟩
    case measure=>exact aF
 | fY e th=>
  obtain⟨hex,cm,b7,bi⟩:=au.o;obtain⟨bq,aa⟩:=aN hex bi;have P:=ae (show deep+1+cm<=23 by have:=eK.o;omega);obtain⟨rfl,rfl⟩:=gS z.ref;obtain rfl:0=n1:=z.args.1;obtain rfl:0=bY:=z.el.1;clear hex bi b7;simp only[ay.kind,ay.name] at *;as_aux_lemma=>
   go_wp2_with(fail);refine(e5 e bq.o _ _ _ _ _ _ _ (D.on z.expr (Fr.ext q.o))).mono ?_;rintro e aE ⟨rfl,he⟩;have bh:=ae (J.trans he);have m:=ae (q.trans he);have G:=ae (x.aj he);clear he aI aj af J q x;obtain⟨aI,aj,af⟩:=G.two;go_wp2_with(fail);refine(gu _ _ _).mono ?_;rintro e aG ⟨rfl,he⟩;have a3:=ae (bh.trans he);have y:=ae (m.trans he);have b6:=ae (G.aj he);clear he aI aj af bh m G;obtain⟨aI,aj,af⟩:=b6.two;go_wp2;refine wp_loop_rounds 1 ?_;rw[rounds_succ];go_wp2_with(fail);refine((show DD th from aK.1) cm (deep+1) _ _ _ _ aa.o (Ir (Nat.le_add_right _ _) i.o) P.o (z.th.on (Fr.ext y.o))).mono ?_;rintro e aO ⟨rfl,he⟩;have bl:=ae (a3.trans he);have F:=ae (y.trans he);have bI:=ae (b6.aj he);clear he aI aj af a3 y b6;obtain⟨aI,aj,af⟩:=bI.two
   exact vH
 | ret=>
  obtain⟨rfl,rfl,rfl,rfl⟩:=kt z.expr;obtain⟨rfl,rfl⟩:=gS z.ref;obtain rfl:0=n1:=z.args.1;obtain rfl:0=cd:=z.th.1;obtain rfl:0=bY:=z.el.1;simp only[ay.kind,ay.name] at *;as_aux_lemma=>
   go_wp2_with(fail);refine(iu _ _ _).mono ?_;rintro e aE ⟨rfl,he⟩;have bh:=ae (J.trans he);have m:=ae (q.trans he);have G:=ae (x.aj he);clear he aI aj af J q x;obtain⟨aI,aj,af⟩:=G.two;go_wp2_with(fail);refine(gu _ _ _).mono ?_;exact DR
 ):p:=h
end zR
open zR in
theorem rz(b:ak)(M:∀s∈b.list,DD s.th/\DD s.el):DD b:=by
 intro d deep A n c w cc K aD hs;have hl:b.list.length=n:=by rw[<-hs.1,ct,Ib]
 have hn:n<=1000000:=by have:=eF b;omega
 have a4:deep<=23:=ad;have aY:decide ((deep:Int)>=24)=false:=by simp;omega
 rw[ct] at hs;obtain⟨bs,aC⟩:=aN hs M;have a0:=ae (gw b d cc);have aT:=ae (λs (hs:s∈b.list)=>Ir (Nat.le_of_lt (hY b s hs)) K);have eK:=ae aD;clear hs M cc K hl aD;go_enter func51,ntmps51;go_wp2;go_loopw [5] (λah wr=>∃k:Nat,k<=n/\ah=.int .i64 k/\Ext w wr) (λah _=>n - (intOf ah).toNat)
 case atStart=>exact⟨0,ad,rfl,IK⟩
 case round=>
  obtain⟨k,ap,rfl,aw⟩:=hrel;have bf:=ae aw;clear aw aY;by_cases al:k<n
  .obtain⟨bb,o,s,cs,rfl,O,b1,dT,bd,Z⟩:=(bs.on (Fr.ext bf.o)).gH mP al;have aX:bb<wr.heap.size:=O;have au:=ae (a0.o s (Ia b1));have aK:=ae (aC.o s (Ia b1));have i:=ae (aT.o s (Ia b1));obtain⟨eo,en,es,EA,em,ec,rs,ce,cX,rc,cF,n1,c1,A2,cd,c2,cl,bY,c3,rfl,E⟩:=kT dT;exact tC
  .obtain rfl:k=n:=ad;go_wp2;go_ret;exact⟨rfl,bf.o⟩
theorem sK(b:ak):DD b:=ak.AM rz b
end Go.Proofs.YtajlmkkidmjgoaaGreatDoor

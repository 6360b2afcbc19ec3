/- Part 28 of the proof. No condition of its own. -/
import Derived.Test.YtnigabjngpnbiaaGreatQ26
namespace Go.Proofs.YtnigabjngpnbiaaGreat
open Go.RowKit Go.Proofs.Tryz
set_option maxRecDepth 1000000
set_option maxHeartbeats 25600000
set_option linter.unusedVariables false
variable{p:Prop}
def wu(a b:Nat):List Nat:=(bif a == 0 then [0] else bif a == 1 then [3] else bif a == 2 then [6] else bif a == 3 then [8] else [])++(bif b == 0 then [18] else bif b == 1 then [20] else bif b == 2 then [22] else [])
def gd:Nat->Nat->Nat->PT
 | 0,_,_=>.stop
 | n+1,a,b=>bif a == 4 && b == 3 then .free 23 (.pick [24] λ_=>.stop) else .pick (wu a b) λi=>
   bif i == 0 then gd n 1 b else bif i == 3 then gd n 2 b else bif i == 6 then .free 7 (gd n 3 b) else bif i == 8 then gd n 4 b else bif i == 18 then .free 19 (gd n a 1) else bif i == 20 then .free 21 (gd n a 2) else gd n a 3
abbrev uF(W w:World)(E:List Nat):Nat->Prop:=λk=>W.heap.size<=k/\k<w.heap.size/\k∉E
structure Hd(W:World)(gs:List Int)(gn m:Nat)(w:World)(a:Nat)(ax v6 bf v10 v11:Value)(E:List Nat):Prop where
 g:(a=0/\E=[]/\hz 3 1 gn (gs.map cX) w 0 ax v6 [])\/(a=1/\hz 3 1 gn (gs.map cX) w 1 ax v6 E)\/(2<=a/\E=[]/\∃F,hz 3 1 gn (gs.map cX) w 2 ax v6 F/\∀k∈F,W.heap.size<=k/\k<w.heap.size)
 o:3<=a->v10=.int .i64 (m:Int)
 t:4<=a->∃A,v11=.slice A m m/\Sl w (uF W w []) A m ((List.replicate m ⟨0,0⟩).map kE)
 e:∀k∈E,W.heap.size<=k/\k<w.heap.size
structure G4(W:World)(mi:Int)(L:Nat)(w:World)(b:Nat)(q y H N R:Value)(E:List Nat):Prop where
 i:1<=b->∃A,q=.slice A L L/\Sl w (uF W w E) A L ((List.replicate L 0).map D.i)/\y=.agg #[.int .i64 mi,.int .i64 0,.slice A L L,.slice none 0 0]
 f:2<=b->∃A,H=.slice A 1 1/\Sl w (uF W w E) A 1 ([(⟨mi,0,List.replicate L 0,[]⟩:ai)].map dP)/\N=.agg #[.slice A 1 1]
 h:3<=b->∃A,R=.slice A 1 1/\Sl w (uF W w E) A 1 ([[(⟨mi,0,List.replicate L 0,[]⟩:ai)]].map jg)
theorem Hd.al{W:World}{gs:List Int}{gn m a:Nat}{w J:World}{ax v6 bf v10 v11:Value}{E:List Nat}(h:Hd W gs gn m w a ax v6 bf v10 v11 E)(ar:Ext w J):Hd W gs gn m J a ax v6 bf v10 v11 E:=by
 have aj:∀k,k<w.heap.size->J.heap[k]?=w.heap[k]?:=λk aj=>ar.block k aj λh=>h;have hs:=ar.size;refine⟨?_,h.o,λbE=>?_,λk aj=>⟨(h.e k aj).1,by have:=(h.e k aj).2;omega⟩⟩
 .rcases h.g with⟨ac,ap,aD⟩|⟨ac,ap⟩|⟨ac,ap,F,aD,bt⟩
  .exact .inl ⟨ac,ap,aD.al λk aj=>by simp at aj⟩
  .exact .inr (.inl ⟨ac,ap.al λb O=>aj b (h.e b O).2⟩)
  .exact .inr (.inr ⟨ac,ap,F,aD.al λb O=>aj b (bt b O).2,λk aj=>⟨(bt k aj).1,by have:=(bt k aj).2;omega⟩⟩)
 .obtain⟨A,ac,ap⟩:=h.t bE;exact⟨A,ac,(ap.al λb O=>aj b O.2.1).mono λb O=>⟨O.1,by have:=O.2.1;omega,O.2.2⟩⟩
theorem G4.al{W:World}{mi:Int}{L b:Nat}{w J:World}{q y H N R:Value}{E a:List Nat}(h:G4 W mi L w b q y H N R E)(hs:w.heap.size<=J.heap.size)(aj:∀k,W.heap.size<=k->k<w.heap.size->k∉E->J.heap[k]?=w.heap[k]?/\k∉a):G4 W mi L J b q y H N R a:=by
 have bI:∀b,uF W w E b->J.heap[b]?=w.heap[b]?:=λb O=>(aj b O.1 O.2.1 O.2.2).1;have hm:∀b,uF W w E b->uF W J a b:=λb O=>⟨O.1,by have:=O.2.1;omega,(aj b O.1 O.2.1 O.2.2).2⟩
 refine⟨λO=>?_,λO=>?_,λO=>?_⟩
 .obtain⟨A,ac,ap,aD⟩:=h.i O;exact⟨A,ac,(ap.al bI).mono hm,aD⟩
 .obtain⟨A,ac,ap,aD⟩:=h.f O;exact⟨A,ac,(ap.al bI).mono hm,aD⟩
 .obtain⟨A,ac,ap⟩:=h.h O;exact⟨A,ac,(ap.al bI).mono hm⟩
theorem Ey{ops:Array Oper}{Q:Exit->Act->World->Prop}{W:World}{gs:List Int}{gn gc mn mc L ws:Nat}{GA MA:Kj}{mi:Int}{X:List bI}{bl Z U aw aF aa ag ah ak al an aq av:Value}{a0 a3 a6 a7 a8 a18 a19 a20 a21 a22:Array Edge}{p0 p3 p6 p7 p8 p18 p19 p20 p21 p22:String}
  (hG:Sl W (ao W) GA gn (gs.map D.i)) (rU:gn<=100000) (hM:cB (EF fO) 3 W W.heap.size MA mn X) (hX:l5 X) (bP:L<=100000) (l4:ws<=W.heap.size)
  (o0:ops[0]?=some ⟨some 3,.buildSlice 22 0 #[],22,p0,a0,none⟩)
  (o3:ops[3]?=some ⟨some 6,.call {callee:=.builtin .append,args:=#[.tmp 3,.tmp 5],argTypes:=#[22,22]},22,p3,a3,none⟩)
  (o6:ops[6]?=some ⟨some 9,.call {callee:=.value (.func 70),args:=#[.tmp 8],argTypes:=#[23]},22,p6,a6,none⟩)
  (o7:ops[7]?=some ⟨some 10,.call {callee:=.builtin .len,args:=#[.tmp 9],argTypes:=#[22]},3,p7,a7,none⟩)
  (o8:ops[8]?=some ⟨some 11,.makeSlice 28 (.tmp 10) (.tmp 10),28,p8,a8,none⟩)
  (Ip:ops[18]?=some ⟨some 21,.makeSlice 22 (.tmp 20) (.tmp 20),22,p18,a18,none⟩)
  (Iq:ops[19]?=some ⟨some 22,.build 59 #[(0,.tmp 13),(2,.tmp 21)],59,p19,a19,none⟩)
  (Ir:ops[20]?=some ⟨some 23,.buildSlice 54 1 #[(0,.tmp 22)],54,p20,a20,none⟩)
  (It:ops[21]?=some ⟨some 24,.build 56 #[(0,.tmp 23)],56,p21,a21,none⟩)
  (Iu:ops[22]?=some ⟨some 25,.buildSlice 29 1 #[(0,.tmp 24)],29,p22,a22,none⟩)
  (jP:∀ax v6 bf v10 v11 q y H N R E w,Ext W w->Hd W gs gn (own X).length w 4 ax v6 bf v10 v11 E->G4 W mi L w 3 q y H N R E->cW prog ops Q (Fr (λk=>¬k<ws)) [24] (.free 23 (.pick [24] λ_=>.stop)) ⟨#[bl,Z,U,ax,aw,.slice GA gn gc,v6,aF,.slice MA mn mc,bf,v10,v11,aa,.int .i64 mi,ag,ah,ak,al,an,aq,.int .i64 (L:Int),q,y,H,N,R,av],[]⟩ w) :
  ∀(n a b:Nat),a<=4->b<=3->8<=n+a+b->∀ax v6 bf v10 v11 q y H N R E w,Ext W w->Hd W gs gn (own X).length w a ax v6 bf v10 v11 E->G4 W mi L w b q y H N R E->
   cW prog ops Q (Fr (λk=>¬k<ws)) [24] (gd n a b) ⟨#[bl,Z,U,ax,aw,.slice GA gn gc,v6,aF,.slice MA mn mc,bf,v10,v11,aa,.int .i64 mi,ag,ah,ak,al,an,aq,.int .i64 (L:Int),q,y,H,N,R,av],[]⟩ w:=by
 intro n
 induction n with
 | zero=>intro a b bE O hn;omega
 | succ n ab=>
  intro a b bE O hn ax v6 bf v10 v11 q y H N R E w ar bu aK;unfold gd
  cases ai:(a == 4 && b == 3) with
  | true=>
   simp only[JU,beq_iff_eq] at ai;obtain⟨rfl,rfl⟩:=ai
   exact jP _ _ _ _ _ _ _ _ _ _ _ _ ar bu aK
  | false=>
  have T:=ar.size;have G:∀o:Obj,Fr (λk=>¬k<ws) w (w.alloc o):=λo=>Kf.alloc o;have bH:∀o:Obj,(w.alloc o).heap.size=w.heap.size+1:=λo=>World.j8 w o;have B:∀o:Obj,Ext W (w.alloc o):=λo=>ar.alloc o;have aA:∀o:Obj,Ext w (w.alloc o):=λo=>Kf.alloc o;have C:∀o:Obj,G4 W mi L (w.alloc o) b q y H N R E:=λo=>aK.al (by rw[bH];omega) λk _ aj hn=>⟨Below.heap_alloc w o k aj,hn⟩
  intro i I;simp only[wu,JR] at I;rcases I with I|I
  .have cl:a=0\/a=1\/a=2\/a=3\/a=4:=ad;rcases cl with rfl|rfl|rfl|rfl|rfl
   ·
    have i0:i=0:=by simpa using I
    subst i0;obtain⟨z,aZ⟩:E=[]/\hz 3 1 gn (gs.map cX) w 0 ax v6 []:=by
     rcases bu.g with⟨_,ap,aD⟩|⟨ac,_⟩|⟨ac,_⟩
     .exact⟨ap,aD⟩
     .omega
     .omega
    subst z;obtain⟨_,_,cm⟩:=aZ.begin rfl;refine⟨_,o0,λK hK=>?_⟩;rw[if_pos (by rfl)];refine DR (hK _ _ (λ_=>G _) ?_)
    try simp only[PU]
    refine ab 1 b ad O ad _ _ _ _ _ _ _ _ _ _ [w.heap.size] _ (B _) ⟨.inr (.inl ⟨rfl,cm⟩),λh=>ad,λh=>ad,λk aj=>?_⟩ (aK.al (by rw[bH];omega) λk _ aj hn=>⟨Below.heap_alloc w _ k aj,λh=>by have:=J9.1 h;omega⟩);rw[bH];have:=J9.1 aj;omega
   ·
    have i0:i=3:=by simpa using I
    subst i0;have aZ:hz 3 1 gn (gs.map cX) w 1 ax v6 E:=by
     rcases bu.g with⟨ac,_⟩|⟨_,aD⟩|⟨ac,_⟩
     .omega
     .exact aD
     .omega
    refine⟨_,o3,λK hK=>?_⟩;rw[if_pos (by rfl)];refine hz.fill aZ eK (.tmp 3) (.tmp 5) rfl rfl rfl (by have:=Src.kL (hG.on (Fr.ext ar)).ints (iP _) (lP _) ad;rwa [sf] at this) ad ad (λh=>by subst h;exact hG.none_) (λv J S cm bO aR r=>?_);have Y:=bO.size;have l:∀k∈E,W.heap.size<=k:=λk aj=>(bu.e k aj).1;have u:Ext W J:=Fr.low (M:=λk=>k∈E) (Fr.trans (Fr.mono ar λ_ h=>h.elim) bO) l;refine hK _ _ (λ_=>bO.mono λk aj=>by have:=l k aj;omega) ?_
    try simp only[PU]
    refine ab 2 b ad O ad _ _ _ _ _ _ _ _ _ _ [] _ u ⟨.inr (.inr ⟨ad,rfl,S,cm,λk aj=>?_⟩),λh=>ad,λh=>ad,λk aj=>by simp at aj⟩ (aK.al Y λk _ aj hn=>⟨bO.block k aj hn,by simp⟩);have ac:=r k aj;have:W.heap.size<=k:=by rcases ac.1 with ap|ap;exact l k ap;omega
    omega
   ·
    have i0:i=6:=by simpa using I
    subst i0;refine⟨_,o6,λK hK=>?_⟩;rw[if_pos (by rfl)];go_simp;refine(k7 MA mn mc X w (hM.eQ (Fr.ext ar) (Fr.ext ar).size) hX).mono ?_;rintro e J ⟨a1,aW,rfl,hc,hs,aN⟩;have d:Ext w J:=Fr.of aN;refine hK _ _ (λ_=>Fr.mono d λ_ h=>h.elim) ?_
    try simp only
    show cW _ _ _ _ _ (.free 7 (gd n 3 b)) _ _
    refine kA (v:=?_) o7 (by rfl) (λV=>?_) ?_;rotate_left
    ·(go_simp<;>with_reducible rfl)
    try simp only[PU]
    have am:=bu.al d;have aS:2<=2/\E=[]/\∃F,hz 3 1 gn (gs.map cX) J 2 ax v6 F/\∀k∈F,W.heap.size<=k/\k<J.heap.size:=by
     rcases am.g with⟨ac,_⟩|⟨ac,_⟩|aD
     .omega
     .omega
     .exact aD
    exact ab 3 b ad O ad _ _ _ _ _ _ _ _ _ _ E _ (ar.trans d) ⟨.inr (.inr ⟨ad,aS.2⟩),λ_=>rfl,λh=>ad,am.e⟩ (aK.al d.size λk _ aj hn=>⟨d.block k aj λh=>h,hn⟩)
   ·
    have i0:i=8:=by simpa using I
    subst i0;have c:=bu.o ad;subst c;have hm:=cq hX;have af:=λW=>run_mk (P:=prog) kf .i64 .i64 (own X).length ad ad W;have aE:=rC (e:=89) (f:=bA) (x:=⟨0,0⟩) (zc:=#[.int .i64 0,.int .i64 0]) (sz:=2) rfl rfl ad (own X).length ad (w:=w) (base:=w.heap.size) (JI _);refine⟨_,o8,λK hK=>?_⟩;rw[if_pos (by rfl)];have cY:=ae aE;clear aE;go_simp;refine hK _ _ (λ_=>G _) ?_
    try simp only
    have am:=bu.al (aA (.cells (madeCells #[.int .i64 0,.int .i64 0] ((own X).length*2)) 89));have aS:2<=3/\E=[]/\∃F,hz 3 1 gn (gs.map cX) (w.alloc (.cells (madeCells #[.int .i64 0,.int .i64 0] ((own X).length*2)) 89)) 2 ax v6 F/\∀k∈F,W.heap.size<=k/\k<(w.alloc (.cells (madeCells #[.int .i64 0,.int .i64 0] ((own X).length*2)) 89)).heap.size:=by
     rcases am.g with⟨ac,_⟩|⟨ac,_⟩|aD
     .omega
     .omega
     .exact aD
    refine ab 4 b ad O ad _ _ _ _ _ _ _ _ _ _ E _ (B _) ⟨.inr (.inr ⟨ad,aS.2⟩),λ_=>rfl,λ_=>⟨_,rfl,?_⟩,am.e⟩ (C _);exact Sl.oJ cY.o (dd _) (by simp) λg _ ac ap=>⟨ad,ap,by simp⟩
   .simp at I
  .have cl:b=0\/b=1\/b=2\/b=3:=ad;rcases cl with rfl|rfl|rfl|rfl
   ·
    have i0:i=18:=by simpa using I
    subst i0;have af:=λW=>run_mk (P:=prog) eK .i64 .i64 L ad ad W;have aE:=rC (e:=3) (f:=dr) (x:=0) (zc:=#[.int .i64 0]) (sz:=1) rfl rfl ad L ad (w:=w) (base:=w.heap.size) (JI _);rw[sf,Nat.mul_one] at aE;have cY:=ae aE;clear aE;refine⟨_,Ip,λK hK=>?_⟩;rw[if_pos (by rfl)];go_simp;refine hK _ _ (λ_=>G _) ?_
    try simp only
    show cW _ _ _ _ _ (.free 19 (gd n a 1)) _ _
    refine kA (v:=?_) Iq (by rfl) (λV=>?_) ?_;rotate_left
    ·(go_simp<;>with_reducible rfl)
    try simp only[PU]
    refine ab a 1 bE ad ad _ _ _ _ _ _ _ _ _ _ E _ (B _) (bu.al (aA _)) ⟨λ_=>⟨_,rfl,?_,rfl⟩,λh=>ad,λh=>ad⟩;exact Sl.oJ cY.o (ck _) (by simp) λg _ ac ap=>⟨ad,ap,λh=>by have:=(bu.e g h).2;omega⟩
   ·
    have i0:i=20:=by simpa using I
    subst i0;obtain⟨A,ay,hs,az⟩:=aK.i ad;subst ay az;refine⟨_,Ir,λK hK=>?_⟩;rw[if_pos (by rfl)];go_simp;refine hK _ _ (λ_=>G _) ?_
    try simp only
    show cW _ _ _ _ _ (.free 21 (gd n a 2)) _ _
    refine kA (v:=?_) It (by rfl) (λV=>?_) ?_;rotate_left
    ·(go_simp<;>with_reducible rfl)
    try simp only[PU]
    have m:=C (.cells #[.int .i64 mi,.int .i64 0,.slice A L L,.slice none 0 0] 59);obtain⟨bg,s,bz,_⟩:=m.i ad;injection s with s _ _;subst s;have bB:=au.new w 59 #[.int .i64 mi,.int .i64 0,.slice A L L,.slice none 0 0];refine ab a 2 bE ad ad _ _ _ _ _ _ _ _ _ _ E _ (B _) (bu.al (aA _)) ⟨λ_=>m.i ad,λ_=>⟨_,rfl,⟨rfl,λ_=>⟨w.heap.size,0,_,rfl,⟨T,by rw[bH];omega,λh=>by have:=(bu.e _ h).2;omega⟩,D.bt.2 (fy.2 ⟨A,L,L,none,0,0,rfl,JI _,JI _,bz,Sl.c7 _⟩),λj v be=>?_⟩⟩,rfl⟩,λh=>ad⟩;rw[J0,bB.cell];simpa using be
   ·
    have i0:i=22:=by simpa using I
    subst i0;obtain⟨A,aB,hs,aC⟩:=aK.f ad;subst aB aC;refine⟨_,Iu,λK hK=>?_⟩;rw[if_pos (by rfl)];go_simp;refine hK _ _ (λ_=>G _) ?_
    try simp only
    have m:=C (.cells #[.slice A 1 1] 56);obtain⟨bg,t,bz,_⟩:=m.f ad;injection t with t _ _;subst t;have bB:=au.new w 56 #[.slice A 1 1];refine ab a 3 bE ad ad _ _ _ _ _ _ _ _ _ _ E _ (B _) (bu.al (aA _)) ⟨λ_=>m.i ad,λ_=>m.f ad,λ_=>⟨_,rfl,rfl,λ_=>⟨w.heap.size,0,_,rfl,⟨T,by rw[bH];omega,λh=>by have:=(bu.e _ h).2;omega⟩,D.bt.2 (ei.2 ⟨A,1,1,rfl,JI _,bz⟩),λj v be=>?_⟩⟩⟩;rw[J0,bB.cell];simpa using be
   .simp at I
theorem Fr.Dg{M M':Nat->Prop}{a b:World}(h:Fr M a b)(hM:∀k,k<a.heap.size->M k->M' k):Fr M' a b:=⟨h.os,h.tape,h.output,h.size,λk aj hn=>h.block k aj λhm=>hn (hM k aj hm)⟩
def wc(g:Nat)(w:World):Nat:=match w.cell? ⟨g,2,none⟩ with|some (.slice _ n _)=>n|_=>0
def F9(w:World)(u:ay)(x:ax)(a b:List Int×Int)(e:Ending)(J:World):Prop:=∃(aE aW:Int) (IA:Kj) (i ic:Nat) (bo:Kj) (l lc:Nat) (z:Int),e=.returned (.tuple #[.agg #[.int .i64 aE,.int .i64 aW,.slice IA i ic,.slice bo l lc],.int .i64 z])/\Ext w J/\
 (a.2≠0->z=a.2)/\(a.2=0->b.2≠0->z=b.2)/\(a.2=0->b.2=0->z=0/\(dP (cU u x.target a.1 b.1)).rep J (fresh w J) [.int .i64 aE,.int .i64 aW,.slice IA i ic,.slice bo l lc])
namespace Cb
theorem q3(h:p:=by
 have a4:=ak aa P;obtain⟨d0,aQ,aR⟩:=(ab.2.2.2.1.aj T).two;obtain⟨b0,am,aw⟩:=(ab.2.2.1.aj T).two;obtain⟨f0,cQ,cV⟩:=(cx.2.aj V).two;clear aa P bY Z a8 O ar aK hG aZ T V;go_upto_region 6 with(fail);refine fj (λ_=>False) [(0,3),(1,0),(2,3),(3,3),(4,0),(5,3),(6,0),(7,3),(8,0),(9,2),(10,3),(11,3),(12,3),(13,3),(14,3)] ?_;refine pf ?_;refine ph ?_
 iterate 2 refine pf ?_
 refine ph ?_;refine pf ?_;refine ph ?_;refine pf ?_;refine ph ?_;refine az rfl (λK hK=>?_);go_simp;have be:Ext wr wr.drew:=(Fr.refl _ wr).drew;obtain⟨bz,b1⟩:=aJ.1.El (aJ.2.1 ex (JL a4.1)) ((ab.2.2.2.2.2.1.on a2.2.2.2.2.1).on be).at_.g ((ab.2.2.2.2.2.2.2.1.on a2.2.2.2.2.1).on be).ints (D.on a4.2 (Fr.ext be));refine(mw ex wr.drew bP IA cg i bQ ic s.globals f.ints _ _ _ _ bz b1).mono ?_;rintro e aV ⟨rfl,bv⟩;have aT:=ae (show Ext wr aV from Fr.aL (Fr.of bv));have aA:=λbi=>mj (k:=k) a2.2.2.2.1 a4.1 bi;generalize a3:ev s.globals f.ints ex=R at *;obtain⟨r,z⟩:=R;have bL:=ak aA a3;clear aA a3 bv be d0 aQ aR b0 am aw f0 cQ cV c0 c1 c2 c3 aN bz b1;refine eC hK ?_;clear hK K
 iterate 5 refine pf ?_
 refine aG ?_;have bp:=a2.2.1.aj aT.o;have bt:=ae bp;obtain⟨e0,bl,bm⟩:=bp.two;have cu:=aT.size;by_cases bi:z=0
 .have q5:(z != 0)=false:=by simpa using bi
  have aB:=ae (a2.2.2.1.aj aT.o);have bn:=ae bi;clear bi bp;go_wp2_with(at_builtin;refine cn eK rfl (.tmp 53) (.tmp 55) rfl aB.o (d:=D.i r) (cs:=#[.int .i64 r]) (by simp only[D.rep]) rfl rfl rfl ad ad ad ?_;intro bU a5 bV bX g2 cv cR;have bH:=bt.on g2 (λhm=>by have:=(aB.lt hm).1;omega);clear e0 bl bm;obtain⟨e0,bl,bm⟩:=bH.two;have bN:=av bX g2 bH;clear bX g2 cv cR bH);generalize hX:World.setCell _ _ _=X;have a6:au X U.heap.size 59 #[.int .i64 x.target,.int .i64 0,.slice bU (k+1) a5,.slice none 0 0]:=hX▸bN.2.2.bH 2 _;have bZ:Fr (λb=>b=U.heap.size) bV X:=hX▸(Fr.refl (λb=>b=U.heap.size) _).setCell (.inl rfl) _;have y:Fr (λb=>b=U.heap.size) Y X:=Fr.Dg (M:=λb=>b=U.heap.size\/(Value.slice A k c).ownBlock=some b) (Fr.trans (Fr.trans (Fr.mono (Fr.trans a2.1 (Fr.mono aT.o λ_ h=>h.elim)) λ_ h=>.inl h) (Fr.mono bN.2.1 λ_ h=>.inr h)) (Fr.mono bZ λ_ h=>.inl h)) λb O hm=>hm.elim id λhm=>absurd (aB.lt hm).1 ad;have bG:=bN.1.eQ bZ λb O _=>⟨λh=>h,by rw[O];omega⟩
  have Q:=av a6 y bG;clear hX a6 bZ y bG e0 bl bm;go_roundw
  case rel=>
   refine⟨k+1,bU,a5,by go_num,ad,Q.2.1,Q.1,?_,λe he=>?_⟩
   .rw[aX a4.1,JP,JP];have ac:=Q.2.2;exact qM
   .rw[aX a4.1] at he;rcases JR.1 he with he|he
    .exact a2.2.2.2.1 e he
    .rw[J9.1 he,bL.2];exact bn.o
  case measure=>exact aU
 .have q5:(z != 0)=true:=by simpa using bi
  have b6:=ae (bL.1 bi);have bn:=ae bi;have ao:=a2.2.2.2.2.1.trans aT.o;have cd:=ab.2.2.2.2.2.2.2.2.aj ao;have cp:=ak cd (ab.1.trans ao);obtain⟨bh,an,aM⟩:=cd.two;clear bi bp ao cd;go_wp2_with(fail);generalize hX:World.setCell _ _ _=X;obtain⟨a6,bf,y⟩:=bk (w:=w) [.int .i64 x.target,.int .i64 0,.slice A k c,.slice none 0 0] (by rfl) cp.1 cp.2 ad hX;have Q:=ae bf;clear hX bf y bh an aM e0 bl bm;obtain⟨bh,an,aM⟩:=a6.two;refine Ke (v:=.tuple #[.agg #[.int .i64 x.target,.int .i64 0,.slice A k c,.slice none 0 0],.int .i64 z]) (by simp[results,Tryz.results75,go_sem,bh]) rfl ?_;refine⟨_,_,_,_,_,_,_,_,z,rfl,Q.o,λ_=>by rw[b6.o],λh=>absurd h ?_,λh=>absurd h ?_⟩
  .rw[b6.o];exact bn.o
  .rw[b6.o];exact bn.o
 ):p:=h
theorem gL(h:p:=by
 obtain⟨eo,en,es,EA,em,ec,QA,qm,qc,dg,j,dh,KA,de,kc⟩:=v;obtain⟨bq,bb,bT,cT,n,fc,IA,i,ic,bo,l,lc,e,hT⟩:=hs.at_.top h.sm h.ht;simp only at e;subst e;obtain⟨ca,cM,cC,aD⟩:=h.args cf;have bF:x.ints.length=j:=by have:=bD.ints.1;simpa using this
 have bM:x.places.length=de:=by have:=bD.places.1;simpa using this
 have cY:j<=200:=by have:=h.il;omega
 have c9:de<=200:=by have:=h.kl;omega
 have aJ:=dq h ca cM bF bM aD;have bR:=b9 hu hs bD hT;clear h ca cM bF bM aD hu hs bD hT;dsimp only[UV.val,SV.val,IV.val];go_enter func75,ntmps75;go_upto_region 1 with(fail);generalize ba:World.alloc _ _=W;have ar:=Hg ba;have bJ:=Fb ba;have b7:=Fc ba;have cL:=Fe ba;have cd:=Ff ba;have ab:=yq ar bJ b7 cL (bR.1.on ar) (bR.2.1.on ar) (bR.2.2.1.on ar) (bR.2.2.2.on ar) cd;obtain⟨b0,am,aw⟩:=b7.two;clear ba ar bJ b7 cL bR cd;go_wp2_with(fail);refine(my ab.2.2.2.2.2.2.2.1 _ _ _).mono ?_;rintro e aL ⟨rfl,ag⟩;have bs:=ae ag;clear b0 am aw;go_upto_region 2 with(fail);generalize hU:World.alloc _ _=U;have ci:=aY hU;have ct:=aF hU;have cB:=ag.trans ci;obtain⟨d0,aQ,aR⟩:=(ab.2.2.2.1.aj cB).two;have c8:=ct.lt;have cx:=ak cB ct;clear hU ci ct cB ag;go_upto_region 3 with(fail);clear d0 aQ aR;generalize cm:World.alloc _ _=Y;have ce:=aY cm;have cy:=aF cm;have da:=cy.lt;have bw:=ak ce cy;clear cm ce cy;go_wp2_with(fail);go_loopw [13] (λcr wr=>∃(k:Nat) (A:Kj) (c:Nat),cr=.int .i64 k/\k<=j/\Fr (λb=>b=U.heap.size) Y wr/\au wr U.heap.size 59 #[.int .i64 x.target,.int .i64 0,.slice A k c,.slice none 0 0]/\Gr (λ_=>False) Y.heap.size 3 1 wr A k c (((x.ints.take k).map λe=>(ev s.globals f.ints e).1).map D.i)/\uk s.globals f.ints x.ints k) (λcr _=>j - (intOf cr).toNat)
 case atStart=>exact⟨0,none,0,rfl,ad,Kf,bw.2,Gr.nil _ _ _ _ _,λe he=>by simp at he⟩
 case round=>
  obtain⟨k,A,c,rfl,aj,ar,aK,hG,aZ⟩:=hrel;have V:Ext U wr:=Fr.low (M:=λb=>b=U.heap.size) (Fr.trans (Fr.mono bw.1 λ_ h=>h.elim) ar) λb O=>by rw[O];exact JI _
  have T:=cx.1.trans V;have a2:=dq ar aK hG aZ T V;have cS:=ar.size;by_cases aq:k<j
  .obtain⟨b,o,ex,cs,rfl,O,aa,P,a8,Z⟩:=(ab.2.2.2.2.2.2.1.ints.on (Fr.ext T)).iG c4 aq;exact q2
  .obtain rfl:k=j:=ad;have aP:cz s.globals f.ints x.ints=(x.ints.map λe=>(ev s.globals f.ints e).1,0):=ml λe he=>aZ e (by rw[JQ (aC aJ.2.2.2.1)];exact he);have cE:Gr (λ_=>False) Y.heap.size 3 1 wr A k c ((cz s.globals f.ints x.ints).1.map D.i):=by
    have aS:=hG;rw[JQ (aC aJ.2.2.2.1)] at aS;rw[aP];exact aS
   obtain⟨cq,rfl⟩:∃cq,cq=wr:=⟨wr,rfl⟩
   have HA:=ak cE aP;obtain⟨d0,aQ,aR⟩:=(ab.2.2.2.1.aj T).two;clear ar aK hG aZ T V aP cE;go_wp2_with(fail);clear d0 aQ aR;go_loopw [16] (λcr wr=>∃(m:Nat) (B:Kj) (aW:Nat),cr=.int .i64 m/\m<=de/\Fr (λb=>b=U.heap.size) cq wr/\au wr U.heap.size 59 #[.int .i64 x.target,.int .i64 0,.slice A k c,.slice B m aW]/\Gr (λ_=>False) cq.heap.size 3 1 wr B m aW (((x.places.take m).map λp=>(bu u s f p).1).map D.i)/\∀p∈x.places.take m,(bu u s f p).2=0) (λcr _=>de - (intOf cr).toNat)
   case atStart=>exact⟨0,none,0,rfl,ad,Kf,a2.2.1,Gr.nil _ _ _ _ _,λe he=>by simp at he⟩
   case round=>
    obtain⟨m,B,aW,rfl,hm,ar,aK,hG,aZ⟩:=hrel;have V:Ext U wr:=Fr.low (M:=λb=>b=U.heap.size) (Fr.trans (Fr.mono a2.2.2.2.2.2 λ_ h=>h.elim) ar) λb O=>by rw[O];exact JI _
    have T:=cx.1.trans V;have br:=dq ar aK hG aZ T V;have a1:=ar.size;by_cases cl:m<de
    .obtain⟨b,o,pl,cI,cJ,zc,rfl,O,aa,cD,b5,b3,bC,cF⟩:=(ab.2.2.2.2.2.2.1.places.on (Fr.ext T)).rD cl;have aN:b<wr.heap.size:=O;have a4:=av aa bC cF;obtain⟨a0,al,af⟩:=(ab.2.1.aj T).two;obtain⟨b0,am,aw⟩:=(ab.2.2.1.aj T).two;obtain⟨d0,aQ,aR⟩:=(ab.2.2.2.1.aj T).two;clear aa bC cF O ar aK hG aZ T V;go_upto_region 13 with(fail);refine fj (λ_=>False) [(0,0),(1,0),(2,3),(3,3),(4,0),(5,3),(6,3),(7,0),(8,2),(9,3),(10,3),(11,3),(12,3),(13,3)] ?_
     iterate 2 refine ph ?_
     iterate 2 refine pf ?_
     refine ph ?_
     iterate 2 refine pf ?_
     refine ph ?_;refine az rfl (λK hK=>?_);go_simp;have be:Ext wr wr.drew:=(Fr.refl _ wr).drew;have bc:=br.2.2.2.2.1.trans be;refine(oV u s t f pl N wr.drew ⟨GA,gn,gc,MA,mn,mc,PA,pn,pc⟩ ⟨bP,cg,bQ,TA,tn,tc,some ⟨bq,bb,none⟩,hn,hc⟩ cI cJ zc ⟨aJ.1.hU.ok,aJ.1.hS,aJ.1.sm,aJ.1.ht,⟨cc,aJ.1.hp,aJ.2.2.1 pl (JL a4.1)⟩,ab.2.2.2.2.1.on bc,ab.2.2.2.2.2.1.on bc,dB.2 ⟨cI,cJ,zc,rfl,a4.2.1,a4.2.2.on (Fr.ext be)⟩⟩).mono ?_;rintro e aV ⟨rfl,bv⟩;rw[hE aJ.1.ht];have aT:=ae (show Ext wr aV from Fr.aL (Fr.of bv));have aA:=λbi=>k2 (k:=m) br.2.2.2.1 a4.1 bi;generalize a3:bu u s f pl=R at *;obtain⟨r,z⟩:=R;have bL:=ak aA a3;clear aA a3 bv be bc a0 al af b0 am aw d0 aQ aR cD b5 b3 aN;refine eC hK ?_;clear hK K
     iterate 5 refine pf ?_
     refine aG ?_;have bp:=br.2.1.aj aT.o;have bt:=ae bp;obtain⟨e0,bl,bm⟩:=bp.two;have cu:=aT.size;by_cases bi:z=0
     .have q5:(z != 0)=false:=by simpa using bi
      have aB:=ae (br.2.2.1.aj aT.o);have bn:=ae bi;clear bi bp;go_wp2_with(at_builtin;refine cn eK rfl (.tmp 82) (.tmp 84) rfl aB.o (d:=D.i r) (cs:=#[.int .i64 r]) (by simp only[D.rep]) rfl rfl rfl ad ad ad ?_;intro bU a5 bV bX g2 cv cR;have bH:=bt.on g2 (λhm=>by have:=(aB.lt hm).1;omega);clear e0 bl bm;obtain⟨e0,bl,bm⟩:=bH.two;have bN:=av bX g2 bH;clear bX g2 cv cR bH);generalize hX:World.setCell _ _ _=X;have a6:au X U.heap.size 59 #[.int .i64 x.target,.int .i64 0,.slice A k c,.slice bU (m+1) a5]:=hX▸bN.2.2.bH 3 _;have bZ:Fr (λb=>b=U.heap.size) bV X:=hX▸(Fr.refl (λb=>b=U.heap.size) _).setCell (.inl rfl) _;have y:Fr (λb=>b=U.heap.size) cq X:=Fr.Dg (M:=λb=>b=U.heap.size\/(Value.slice B m aW).ownBlock=some b) (Fr.trans (Fr.trans (Fr.mono (Fr.trans br.1 (Fr.mono aT.o λ_ h=>h.elim)) λ_ h=>.inl h) (Fr.mono bN.2.1 λ_ h=>.inr h)) (Fr.mono bZ λ_ h=>.inl h)) λb O hm=>hm.elim id λhm=>absurd (aB.lt hm).1 ad;have bG:=bN.1.eQ bZ λb O _=>⟨λh=>h,by rw[O];omega⟩
      have Q:=av a6 y bG;clear hX a6 bZ y bG e0 bl bm;go_roundw
      case rel=>
       refine⟨m+1,bU,a5,by go_num,ad,Q.2.1,Q.1,?_,λe he=>?_⟩
       .rw[aX a4.1,JP,JP];have ac:=Q.2.2;exact qM
       .rw[aX a4.1] at he;rcases JR.1 he with he|he
        .exact br.2.2.2.1 e he
        .rw[J9.1 he,bL.2];exact bn.o
      case measure=>exact aU
     .have q5:(z != 0)=true:=by simpa using bi
      have b6:=ae (bL.1 bi);have bn:=ae bi;have ao:=br.2.2.2.2.1.trans aT.o;have cd:=ab.2.2.2.2.2.2.2.2.aj ao;have cp:=ak cd (ab.1.trans ao);obtain⟨bh,an,aM⟩:=cd.two;clear bi bp ao cd;go_wp2_with(fail);generalize hX:World.setCell _ _ _=X;obtain⟨a6,bf,y⟩:=bk (w:=w) [.int .i64 x.target,.int .i64 0,.slice A k c,.slice B m aW] (by rfl) cp.1 cp.2 ad hX;have Q:=ae bf;clear hX bf y bh an aM e0 bl bm;obtain⟨bh,an,aM⟩:=a6.two;refine Ke (v:=.tuple #[.agg #[.int .i64 x.target,.int .i64 0,.slice A k c,.slice B m aW],.int .i64 z]) (by simp[results,Tryz.results75,go_sem,bh]) rfl ?_;refine⟨_,_,_,_,_,_,_,_,z,rfl,Q.o,λh=>absurd ?_ h,λ_ _=>by rw[b6.o],λ_ h=>absurd h ?_⟩
      .rw[HA.2]
      .rw[b6.o];exact bn.o
    .obtain rfl:m=de:=ad;have bK:bS u s f x.places=(x.places.map λp=>(bu u s f p).1,0):=k3 λe he=>aZ e (by rw[JQ (aC aJ.2.2.2.2.1)];exact he);have cj:Sl wr (λb=>cq.heap.size<=b/\b<wr.heap.size) B m ((bS u s f x.places).1.map D.i):=by
      have aS:=hG;rw[JQ (aC aJ.2.2.2.2.1)] at aS;rw[bK];exact aS.sl (λb _ h=>h.elim) λb aq O=>⟨O,aq⟩
     have cA:=hG.cap.1;have cE:=HA.1.eQ ar λb O _=>⟨λh=>h,by rw[O];omega⟩
     obtain⟨cP,rfl⟩:∃cP,cP=wr:=⟨wr,rfl⟩
     have bW:=b9 cj cA bK cE;obtain⟨c6,co,dQ,eT,b2⟩:=aJ.2.2.2.2.2;have bI:=(List.getElem?_eq_some_iff.1 co).1;have bB:=ab.2.2.2.2.1.at_.p.1;rw[JM] at bB;simp only at bB;obtain⟨pb,db,cZ,S,cN,bx,e,ch,aH,cD,b5,b3,bA,cO,_,_⟩:=ab.2.2.2.2.1.at_.proc (k:=x.target.toNat) (by show x.target.toNat<pn;omega);simp only at e;subst e;rw[co] at aH;injection aH with aH;subst aH;have cK:=b2.ints;obtain⟨L,bd⟩:=JN (a:=c6.locals) ad;rw[bd] at bA;have eC:k<=L:=by have:=aJ.2.2.2.1;omega
     have c5:L<=200:=ad;have b4:x.target<(pn:Int):=ad;have aI:eu u x.target=L:=by unfold eu;rw[co];simp[bd]
     have cw:=av aI ch bA;obtain⟨d0,aQ,aR⟩:=(ab.2.2.2.1.aj T).two;clear ar aK hG aZ T V bK cj cE co dQ eT b2 bI bB ch cD b5 b3 bA cO cK bd aI;go_wp2_with(fail);clear d0 aQ aR;go_loopw [97] (λ_ wr=>∃(bE:Nat) (bg:Kj) (c2:Nat),k<=bE/\bE<=L/\Fr (λb=>b=U.heap.size\/(Y.heap.size<=b/\b<cq.heap.size)) cP wr/\au wr U.heap.size 59 #[.int .i64 x.target,.int .i64 0,.slice bg bE c2,.slice B m aW]/\Gr (λ_=>False) Y.heap.size 3 1 wr bg bE c2 (((cz s.globals f.ints x.ints).1++List.replicate (bE - k) 0).map D.i)/\∀b,(Value.slice bg bE c2).ownBlock=some b->(b<cq.heap.size\/cP.heap.size<=b)) (λ_ wr=>L - wc U.heap.size wr)
     case atStart=>exact⟨k,A,c,ad,eC,Kf,br.2.1,by rw[Nat.sub_self,List.replicate_zero,J7];exact bW.2.2.2,λb O=>.inl (HA.1.lt O).2⟩
     case round=>
      obtain⟨bE,bg,c2,cH,bM,ar,aK,hG,aE⟩:=hrel;have di:=bw.1.size;have V:Ext U wr:=Fr.low (M:=λb=>b=U.heap.size\/(Y.heap.size<=b/\b<cq.heap.size)) (Fr.trans (Fr.mono br.2.2.2.2.2 λ_ h=>h.elim) ar) λb O=>by rcases O with O|O<;>omega
      have T:=cx.1.trans V;have cb:=dq ar aK hG aE T V;have cF:=ar.size;obtain⟨a0,al,af⟩:=(ab.2.1.aj T).two;obtain⟨d0,aQ,aR⟩:=(ab.2.2.2.1.aj T).two;obtain⟨e0,bl,bm⟩:=aK.two;have bA:=(T.cell cw.2.1 λh=>h).trans cw.2.2;have bB:pb<wr.heap.size:=JJ cw.2.1 T.size;clear ar aK hG aE T V;by_cases a9:bE<L
      .go_upto_region 17 with(fail);refine fj (λ_=>False) [(0,3),(1,0),(2,3),(3,3),(4,0),(5,3),(6,0),(7,3),(8,3),(9,0),(10,3)] ?_;refine pf ?_;refine ph ?_
       iterate 2 refine pf ?_
       refine ph ?_;refine pf ?_;refine ph ?_
       iterate 2 refine pf ?_
       refine ph ?_;refine pf ?_;refine aG ?_;generalize ck:World.drew wr=aV;have aO:Ext wr aV:=ck▸(Fr.refl _ wr).drew;clear ck a0 al af d0 aQ aR bA bB e0 bl bm;have aT:=ae aO;have bp:=cb.2.1.aj aO;have bt:=ae bp;have aB:=ae (cb.2.2.1.aj aO);have cu:=aO.size;obtain⟨e0,bl,bm⟩:=bp.two;clear aO bp;have dl:(bE:Int)<(L:Int):=ad;have q7:decide ((bE:Int)<(L:Int))=true:=decide_eq_true dl;go_wp2_with(at_builtin;refine cn eK rfl (.tmp 99) (.tmp 100) rfl aB.o (d:=D.i 0) (cs:=#[.int .i64 0]) (by simp only[D.rep]) rfl rfl rfl ad ad ad ?_;intro bU a5 bV bX g2 cv cR;have bH:=bt.on g2 (λhm=>by have:=(aB.lt hm).1;omega);clear e0 bl bm;obtain⟨e0,bl,bm⟩:=bH.two;have bN:=b9 bX g2 bH cv;clear bX g2 cv cR bH);generalize hX:World.setCell _ _ _=X;have a6:au X U.heap.size 59 #[.int .i64 x.target,.int .i64 0,.slice bU (bE+1) a5,.slice B m aW]:=hX▸bN.2.2.1.bH 2 _;have bZ:Fr (λb=>b=U.heap.size) bV X:=hX▸(Fr.refl (λb=>b=U.heap.size) _).setCell (.inl rfl) _;have y:Fr (λb=>b=U.heap.size\/(Y.heap.size<=b/\b<cq.heap.size)) cP X:=Fr.Dg (M:=λb=>(b=U.heap.size\/(Y.heap.size<=b/\b<cq.heap.size))\/(Value.slice bg bE c2).ownBlock=some b) (Fr.trans (Fr.trans (Fr.mono (Fr.trans cb.1 (Fr.mono aT.o λ_ h=>h.elim)) λ_ h=>.inl h) (Fr.mono bN.2.1 λ_ h=>.inr h)) (Fr.mono bZ λ_ h=>.inl (.inl h))) λb O hm=>hm.elim id λhm=>.inr ⟨(aB.lt hm).1,by rcases cb.2.2.2.1 b hm with h|h<;>omega⟩;have bG:=bN.1.eQ bZ λb O _=>⟨λh=>h,by rw[O];omega⟩
       have cW:∀b,(Value.slice bU (bE+1) a5).ownBlock=some b->(b<cq.heap.size\/cP.heap.size<=b):=λb O=>(bN.2.2.2 b O).elim (λh=>cb.2.2.2.1 b h) λh=>.inr ad;have b8:L - wc U.heap.size X<L - wc U.heap.size wr:=by
        unfold wc;rw[a6.cell 2,cb.2.1.cell 2];show L - (bE+1)<L - bE
        omega
       have Q:=dT a6 y bG cW b8;clear hX a6 bZ y bG cW b8 e0 bl bm;go_roundw
       case rel=>
        refine⟨bE+1,bU,a5,ad,ad,Q.2.1,Q.1,?_,Q.2.2.2.1⟩;rw[show bE+1 - k=(bE - k)+1 by omega,List.replicate_succ',<-List.append_assoc,JP];exact Q.2.2.1
       case measure=>exact Q.2.2.2.2
      .have dF:bE=L:=ad;have q7:decide ((bE:Int)<(L:Int))=false:=decide_eq_false ad;have cX:=ae dF;clear dF;go_upto_region 17 with(fail);refine fj (λ_=>False) [(0,3),(1,0),(2,3),(3,3),(4,0),(5,3),(6,0),(7,3),(8,3),(9,0),(10,3)] ?_;refine pf ?_;refine ph ?_
       iterate 2 refine pf ?_
       refine ph ?_;refine pf ?_;refine ph ?_
       iterate 2 refine pf ?_
       refine ph ?_;refine pf ?_;refine aG ?_;generalize ck:World.drew wr=aV;have aO:Ext wr aV:=ck▸(Fr.refl _ wr).drew;clear ck a0 al af d0 aQ aR bA bB e0 bl bm;have cu:=aO.size;have bp:=cb.2.1.aj aO;have a7:Fr (λb=>b=U.heap.size\/(Y.heap.size<=b/\b<cq.heap.size)) cP aV:=Fr.trans cb.1 (Fr.mono aO λ_ h=>h.elim);have ao:=cb.2.2.2.2.1.trans aO;have cd:=ab.2.2.2.2.2.2.2.2.aj ao;have cp:=b9 cd (ab.1.trans ao) (cb.2.2.1.aj aO) a7;obtain⟨e0,bl,bm⟩:=bp.two;obtain⟨bh,an,aM⟩:=cd.two;clear aO bp ao cd a7;go_wp2_with(fail);generalize hX:World.setCell _ _ _=X;obtain⟨a6,bf,y⟩:=bk (w:=w) [.int .i64 x.target,.int .i64 0,.slice bg bE c2,.slice B m aW] (by rfl) cp.1 cp.2.1 ad hX;have Q:=ak bf y;clear hX bf y bh an aM e0 bl bm;obtain⟨bh,an,aM⟩:=a6.two;refine Ke (v:=.tuple #[.agg #[.int .i64 x.target,.int .i64 0,.slice bg bE c2,.slice B m aW],.int .i64 0]) (by simp[results,Tryz.results75,go_sem,bh]) rfl ?_;refine⟨_,_,_,_,_,_,_,_,0,rfl,Q.1,λh=>absurd ?_ h,λ_ h=>absurd ?_ h,λ_ _=>⟨rfl,?_⟩⟩
       .rw[HA.2]
       .rw[bW.2.2.1]
       .have cU:=ab.2.2.2.2.2.2.2.2.lt;have bO:=cx.1.size;have dk:=bw.1.size;have dn:=a2.1.size;have dp:=br.1.size;have dc:=cp.2.2.2.size;have dd:=Q.2.size;have dA:=cp.2.2.1.eQ Q.2 λb O _=>⟨λh=>h,by rw[O];omega⟩
        refine fy.2 ⟨bg,bE,c2,B,m,aW,rfl,cp.2.2.1.cap.1,bW.2.1,?_,?_⟩
        .have hlen:(cz s.globals f.ints x.ints).1.length=k:=by rw[HA.2];simp[aJ.2.2.2.1]
         show Sl X _ bg bE (((cz s.globals f.ints x.ints).1++List.replicate (eu u x.target - (cz s.globals f.ints x.ints).1.length) 0).map D.i)
         rw[cw.1,hlen,<-cX.o];exact dA.sl (λb _ h=>h.elim) λb aq O=>⟨ad,aq⟩
        .show Sl X _ B m ((bS u s f x.places).1.map D.i)
         refine(bW.1.al (J:=X) λb O=>?_).mono λb O=>⟨ad,ad⟩
         rw[Q.2.block b ad ad,cp.2.2.2.block b O.2 ad]
 ):p:=h
end Cb
open Cb in
theorem sM(u:ay)(s:ah)(t:Int)(f:ai)(cc:cG)(x:ax)(N:Nat)(w:World)(p:UV)(q:SV)(v:IV)(h:je u s t f cc x N)(cf:x.op=2\/x.op=3)(hu:p.Ok w u)(hs:q.Ok w s)(bD:v.Ok w x) :
  Calls prog 75 #[.agg (p.val u),.agg (q.val s),.int .i64 t,.agg (v.val x)] w (F9 w u x (cz s.globals f.ints x.ints) (bS u s f x.places)):=by
 exact gK
end Go.Proofs.YtnigabjngpnbiaaGreat

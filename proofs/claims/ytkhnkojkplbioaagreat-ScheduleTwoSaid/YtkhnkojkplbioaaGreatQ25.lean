/- Part 25 of the proof. No condition of its own. -/
import Derived.Test.YtkhnkojkplbioaaGreatQ24
namespace Go.Proofs.YtkhnkojkplbioaaGreat
open Go.RowKit Go.Proofs.Tryz
set_option maxRecDepth 1000000
set_option maxHeartbeats 25600000
set_option linter.unusedVariables false
variable{p:Prop}
def yj(a b:Nat):List Nat:=(bif a == 0 then [0] else bif a == 1 then [3] else bif a == 2 then [6] else bif a == 3 then [8] else [])++(bif b == 0 then [18] else bif b == 1 then [20] else bif b == 2 then [22] else [])
def gS:Nat->Nat->Nat->PT
 | 0,_,_=>.stop
 | n+1,a,b=>bif a == 4 && b == 3 then .free 23 (.pick [24] λ_=>.stop) else .pick (yj a b) λi=>
   bif i == 0 then gS n 1 b else bif i == 3 then gS n 2 b else bif i == 6 then .free 7 (gS n 3 b) else bif i == 8 then gS n 4 b else bif i == 18 then .free 19 (gS n a 1) else bif i == 20 then .free 21 (gS n a 2) else gS n a 3
abbrev wY(W w:World)(E:List Nat):Nat->Prop:=λk=>W.heap.size<=k/\k<w.heap.size/\k∉E
structure IT(W:World)(gs:List Int)(gn m:Nat)(w:World)(a:Nat)(bt v6 aH v10 v11:Value)(E:List Nat):Prop where
 g:(a=0/\E=[]/\iy 3 1 gn (gs.map df) w 0 bt v6 [])\/(a=1/\iy 3 1 gn (gs.map df) w 1 bt v6 E)\/(2<=a/\E=[]/\∃F,iy 3 1 gn (gs.map df) w 2 bt v6 F/\∀k∈F,W.heap.size<=k/\k<w.heap.size)
 o:3<=a->v10=.int .i64 (m:Int)
 t:4<=a->∃A,v11=.slice A m m/\Sl w (wY W w []) A m ((List.replicate m ⟨0,0⟩).map lD)
 e:∀k∈E,W.heap.size<=k/\k<w.heap.size
structure ID(W:World)(mi:Int)(L:Nat)(w:World)(b:Nat)(q s y G H:Value)(E:List Nat):Prop where
 i:1<=b->∃A,q=.slice A L L/\Sl w (wY W w E) A L ((List.replicate L 0).map D.i)/\s=.agg #[.int .i64 mi,.int .i64 0,.slice A L L,.slice none 0 0]
 f:2<=b->∃A,y=.slice A 1 1/\Sl w (wY W w E) A 1 ([(⟨mi,0,List.replicate L 0,[]⟩:ak)].map ew)/\G=.agg #[.slice A 1 1]
 h:3<=b->∃A,H=.slice A 1 1/\Sl w (wY W w E) A 1 ([[(⟨mi,0,List.replicate L 0,[]⟩:ak)]].map jW)
theorem IT.al{W:World}{gs:List Int}{gn m a:Nat}{w ab:World}{bt v6 aH v10 v11:Value}{E:List Nat}(h:IT W gs gn m w a bt v6 aH v10 v11 E)(aw:Ext w ab):IT W gs gn m ab a bt v6 aH v10 v11 E:=by
 have ap:∀k,k<w.heap.size->ab.heap[k]?=w.heap[k]?:=λk ap=>aw.block k ap λh=>h;have hs:=aw.size;refine⟨?_,h.o,λbz=>?_,λk ap=>⟨(h.e k ap).1,by have:=(h.e k ap).2;omega⟩⟩
 .rcases h.g with⟨ac,au,aY⟩|⟨ac,au⟩|⟨ac,au,F,aY,bR⟩
  .exact .inl ⟨ac,au,aY.al λk ap=>by simp at ap⟩
  .exact .inr (.inl ⟨ac,au.al λb O=>ap b (h.e b O).2⟩)
  .exact .inr (.inr ⟨ac,au,F,aY.al λb O=>ap b (bR b O).2,λk ap=>⟨(bR k ap).1,by have:=(bR k ap).2;omega⟩⟩)
 .obtain⟨A,ac,au⟩:=h.t bz;exact⟨A,ac,(au.al λb O=>ap b O.2.1).mono λb O=>⟨O.1,by have:=O.2.1;omega,O.2.2⟩⟩
theorem ID.al{W:World}{mi:Int}{L b:Nat}{w ab:World}{q s y G H:Value}{E a:List Nat}(h:ID W mi L w b q s y G H E)(hs:w.heap.size<=ab.heap.size)(ap:∀k,W.heap.size<=k->k<w.heap.size->k∉E->ab.heap[k]?=w.heap[k]?/\k∉a):ID W mi L ab b q s y G H a:=by
 have cd:∀b,wY W w E b->ab.heap[b]?=w.heap[b]?:=λb O=>(ap b O.1 O.2.1 O.2.2).1;have hm:∀b,wY W w E b->wY W ab a b:=λb O=>⟨O.1,by have:=O.2.1;omega,(ap b O.1 O.2.1 O.2.2).2⟩
 refine⟨λO=>?_,λO=>?_,λO=>?_⟩
 .obtain⟨A,ac,au,aY⟩:=h.i O;exact⟨A,ac,(au.al cd).mono hm,aY⟩
 .obtain⟨A,ac,au,aY⟩:=h.f O;exact⟨A,ac,(au.al cd).mono hm,aY⟩
 .obtain⟨A,ac,au⟩:=h.h O;exact⟨A,ac,(au.al cd).mono hm⟩
theorem F7{ops:Array Oper}{Q:Exit->Act->World->Prop}{W:World}{gs:List Int}{gn gc mn mc L ws:Nat}{GA MA:L3}{mi:Int}{X:List bD}{bx Z a4 ax az J N Y aa af ag ah ai:Value}{a0 a3 a6 a7 a8 a18 a19 a20 a21 a22:Array Edge}{p0 p3 p6 p7 p8 p18 p19 p20 p21 p22:String}
  (hG:Sl W (av W) GA gn (gs.map D.i)) (r3:gn<=100000) (hM:cp (EF gg) 3 W W.heap.size MA mn X) (hX:ns X) (bU:L<=100000) (nt:ws<=W.heap.size)
  (o0:ops[0]?=some ⟨some 3,.buildSlice 22 0 #[],22,p0,a0,none⟩)
  (o3:ops[3]?=some ⟨some 6,.call {callee:=.builtin .append,args:=#[.tmp 3,.tmp 5],argTypes:=#[22,22]},22,p3,a3,none⟩)
  (o6:ops[6]?=some ⟨some 9,.call {callee:=.value (.func 50),args:=#[.tmp 8],argTypes:=#[24]},22,p6,a6,none⟩)
  (o7:ops[7]?=some ⟨some 10,.call {callee:=.builtin .len,args:=#[.tmp 9],argTypes:=#[22]},3,p7,a7,none⟩)
  (o8:ops[8]?=some ⟨some 11,.makeSlice 37 (.tmp 10) (.tmp 10),37,p8,a8,none⟩)
  (JW:ops[18]?=some ⟨some 21,.makeSlice 22 (.tmp 20) (.tmp 20),22,p18,a18,none⟩)
  (JX:ops[19]?=some ⟨some 22,.build 72 #[(0,.tmp 13),(2,.tmp 21)],72,p19,a19,none⟩)
  (JY:ops[20]?=some ⟨some 23,.buildSlice 66 1 #[(0,.tmp 22)],66,p20,a20,none⟩)
  (JZ:ops[21]?=some ⟨some 24,.build 68 #[(0,.tmp 23)],68,p21,a21,none⟩)
  (J0:ops[22]?=some ⟨some 25,.buildSlice 38 1 #[(0,.tmp 24)],38,p22,a22,none⟩)
  (l7:∀bt v6 aH v10 v11 q s y G H E w,Ext W w->IT W gs gn (own X).length w 4 bt v6 aH v10 v11 E->ID W mi L w 3 q s y G H E->cR prog ops Q (Fr (λk=>¬k<ws)) [24] (.free 23 (.pick [24] λ_=>.stop)) ⟨#[bx,Z,a4,bt,ax,.slice GA gn gc,v6,az,.slice MA mn mc,aH,v10,v11,J,.int .i64 mi,N,Y,aa,af,ag,ah,.int .i64 (L:Int),q,s,y,G,H,ai],[]⟩ w) :
  ∀(n a b:Nat),a<=4->b<=3->8<=n+a+b->∀bt v6 aH v10 v11 q s y G H E w,Ext W w->IT W gs gn (own X).length w a bt v6 aH v10 v11 E->ID W mi L w b q s y G H E->
   cR prog ops Q (Fr (λk=>¬k<ws)) [24] (gS n a b) ⟨#[bx,Z,a4,bt,ax,.slice GA gn gc,v6,az,.slice MA mn mc,aH,v10,v11,J,.int .i64 mi,N,Y,aa,af,ag,ah,.int .i64 (L:Int),q,s,y,G,H,ai],[]⟩ w:=by
 intro n
 induction n with
 | zero=>intro a b bz O hn;omega
 | succ n ao=>
  intro a b bz O hn bt v6 aH v10 v11 q s y G H E w aw aX aR;unfold gS
  cases ay:(a == 4 && b == 3) with
  | true=>
   simp only[Lw,beq_iff_eq] at ay;obtain⟨rfl,rfl⟩:=ay
   exact l7 _ _ _ _ _ _ _ _ _ _ _ _ aw aX aR
  | false=>
  have U:=aw.size;have z:∀o:Obj,Fr (λk=>¬k<ws) w (w.alloc o):=λo=>LW.alloc o;have bI:∀o:Obj,(w.alloc o).heap.size=w.heap.size+1:=λo=>World.kR w o;have C:∀o:Obj,Ext W (w.alloc o):=λo=>aw.alloc o;have bv:∀o:Obj,Ext w (w.alloc o):=λo=>LW.alloc o;have bw:∀o:Obj,ID W mi L (w.alloc o) b q s y G H E:=λo=>aR.al (by rw[bI];omega) λk _ ap hn=>⟨Below.heap_alloc w o k ap,hn⟩
  intro i an;simp only[yj,Lt] at an;rcases an with an|an
  .have cI:a=0\/a=1\/a=2\/a=3\/a=4:=ad;rcases cI with rfl|rfl|rfl|rfl|rfl
   ·
    have i0:i=0:=by simpa using an
    subst i0;obtain⟨m,ba⟩:E=[]/\iy 3 1 gn (gs.map df) w 0 bt v6 []:=by
     rcases aX.g with⟨_,au,aY⟩|⟨ac,_⟩|⟨ac,_⟩
     .exact⟨au,aY⟩
     .omega
     .omega
    subst m;obtain⟨_,_,c6⟩:=ba.begin rfl;refine⟨_,o0,λK hK=>?_⟩;rw[if_pos (by rfl)];refine Fo (hK _ _ (λ_=>z _) ?_)
    try simp only[PU]
    refine ao 1 b ad O ad _ _ _ _ _ _ _ _ _ _ [w.heap.size] _ (C _) ⟨.inr (.inl ⟨rfl,c6⟩),λh=>ad,λh=>ad,λk ap=>?_⟩ (aR.al (by rw[bI];omega) λk _ ap hn=>⟨Below.heap_alloc w _ k ap,λh=>by have:=LO.1 h;omega⟩);rw[bI];have:=LO.1 ap;omega
   ·
    have i0:i=3:=by simpa using an
    subst i0;have ba:iy 3 1 gn (gs.map df) w 1 bt v6 E:=by
     rcases aX.g with⟨ac,_⟩|⟨_,aY⟩|⟨ac,_⟩
     .omega
     .exact aY
     .omega
    refine⟨_,o3,λK hK=>?_⟩;rw[if_pos (by rfl)];refine iy.fill ba dh (.tmp 3) (.tmp 5) rfl rfl rfl (by have:=Src.lM (hG.on (Fr.ext aw)).ints (jH _) (mY _) ad;rwa [uA] at this) ad ad (λh=>by subst h;exact hG.none_) (λv ab R c6 cd a5 r=>?_);have cq:=cd.size;have l:∀k∈E,W.heap.size<=k:=λk ap=>(aX.e k ap).1;have S:Ext W ab:=Fr.low (M:=λk=>k∈E) (Fr.trans (Fr.mono aw λ_ h=>h.elim) cd) l;refine hK _ _ (λ_=>cd.mono λk ap=>by have:=l k ap;omega) ?_
    try simp only[PU]
    refine ao 2 b ad O ad _ _ _ _ _ _ _ _ _ _ [] _ S ⟨.inr (.inr ⟨ad,rfl,R,c6,λk ap=>?_⟩),λh=>ad,λh=>ad,λk ap=>by simp at ap⟩ (aR.al cq λk _ ap hn=>⟨cd.block k ap hn,by simp⟩);have ac:=r k ap;have:W.heap.size<=k:=by rcases ac.1 with au|au;exact l k au;omega
    omega
   ·
    have i0:i=6:=by simpa using an
    subst i0;refine⟨_,o6,λK hK=>?_⟩;rw[if_pos (by rfl)];go_simp;refine(mh MA mn mc X w (hM.c8 (Fr.ext aw) (Fr.ext aw).size) hX).mono ?_;rintro e ab ⟨I,aK,rfl,hc,hs,aT⟩;have d:Ext w ab:=Fr.of aT;refine hK _ _ (λ_=>Fr.mono d λ_ h=>h.elim) ?_
    try simp only
    show cR _ _ _ _ _ (.free 7 (gS n 3 b)) _ _
    refine lx (v:=?_) o7 (by rfl) (λV=>?_) ?_;rotate_left
    ·(go_simp<;>with_reducible rfl)
    try simp only[PU]
    have am:=aX.al d;have a9:2<=2/\E=[]/\∃F,iy 3 1 gn (gs.map df) ab 2 bt v6 F/\∀k∈F,W.heap.size<=k/\k<ab.heap.size:=by
     rcases am.g with⟨ac,_⟩|⟨ac,_⟩|aY
     .omega
     .omega
     .exact aY
    exact ao 3 b ad O ad _ _ _ _ _ _ _ _ _ _ E _ (aw.trans d) ⟨.inr (.inr ⟨ad,a9.2⟩),λ_=>rfl,λh=>ad,am.e⟩ (aR.al d.size λk _ ap hn=>⟨d.block k ap λh=>h,hn⟩)
   ·
    have i0:i=8:=by simpa using an
    subst i0;have c:=aX.o ad;subst c;have hm:=ch hX;have d3:=λW=>run_mk (P:=prog) kX .i64 .i64 (own X).length ad ad W;have aB:=wZ (e:=123) (f:=bK) (x:=⟨0,0⟩) (zc:=#[.int .i64 0,.int .i64 0]) (sz:=2) rfl rfl ad (own X).length ad (w:=w) (base:=w.heap.size) (Lk _);refine⟨_,o8,λK hK=>?_⟩;rw[if_pos (by rfl)];have bQ:=ae aB;clear aB;go_simp;refine hK _ _ (λ_=>z _) ?_
    try simp only
    have am:=aX.al (bv (.cells (madeCells #[.int .i64 0,.int .i64 0] ((own X).length*2)) 123));have a9:2<=3/\E=[]/\∃F,iy 3 1 gn (gs.map df) (w.alloc (.cells (madeCells #[.int .i64 0,.int .i64 0] ((own X).length*2)) 123)) 2 bt v6 F/\∀k∈F,W.heap.size<=k/\k<(w.alloc (.cells (madeCells #[.int .i64 0,.int .i64 0] ((own X).length*2)) 123)).heap.size:=by
     rcases am.g with⟨ac,_⟩|⟨ac,_⟩|aY
     .omega
     .omega
     .exact aY
    refine ao 4 b ad O ad _ _ _ _ _ _ _ _ _ _ E _ (C _) ⟨.inr (.inr ⟨ad,a9.2⟩),λ_=>rfl,λ_=>⟨_,rfl,?_⟩,am.e⟩ (bw _);exact Sl.qB bQ.o (dA _) (by simp) λg _ ac au=>⟨ad,au,by simp⟩
   .simp at an
  .have cI:b=0\/b=1\/b=2\/b=3:=ad;rcases cI with rfl|rfl|rfl|rfl
   ·
    have i0:i=18:=by simpa using an
    subst i0;have d3:=λW=>run_mk (P:=prog) dh .i64 .i64 L ad ad W;have aB:=wZ (e:=3) (f:=cP) (x:=0) (zc:=#[.int .i64 0]) (sz:=1) rfl rfl ad L ad (w:=w) (base:=w.heap.size) (Lk _);rw[uA,Nat.mul_one] at aB;have bQ:=ae aB;clear aB;refine⟨_,JW,λK hK=>?_⟩;rw[if_pos (by rfl)];go_simp;refine hK _ _ (λ_=>z _) ?_
    try simp only
    show cR _ _ _ _ _ (.free 19 (gS n a 1)) _ _
    refine lx (v:=?_) JX (by rfl) (λV=>?_) ?_;rotate_left
    ·(go_simp<;>with_reducible rfl)
    try simp only[PU]
    refine ao a 1 bz ad ad _ _ _ _ _ _ _ _ _ _ E _ (C _) (aX.al (bv _)) ⟨λ_=>⟨_,rfl,?_,rfl⟩,λh=>ad,λh=>ad⟩;exact Sl.qB bQ.o (cx _) (by simp) λg _ ac au=>⟨ad,au,λh=>by have:=(aX.e g h).2;omega⟩
   ·
    have i0:i=20:=by simpa using an
    subst i0;obtain⟨A,aj,hs,ak⟩:=aR.i ad;subst aj ak;refine⟨_,JY,λK hK=>?_⟩;rw[if_pos (by rfl)];go_simp;refine hK _ _ (λ_=>z _) ?_
    try simp only
    show cR _ _ _ _ _ (.free 21 (gS n a 2)) _ _
    refine lx (v:=?_) JZ (by rfl) (λV=>?_) ?_;rotate_left
    ·(go_simp<;>with_reducible rfl)
    try simp only[PU]
    have t:=bw (.cells #[.int .i64 mi,.int .i64 0,.slice A L L,.slice none 0 0] 72);obtain⟨A2,u,bN,_⟩:=t.i ad;injection u with u _ _;subst u;have T:=aq.new w 72 #[.int .i64 mi,.int .i64 0,.slice A L L,.slice none 0 0];refine ao a 2 bz ad ad _ _ _ _ _ _ _ _ _ _ E _ (C _) (aX.al (bv _)) ⟨λ_=>t.i ad,λ_=>⟨_,rfl,⟨rfl,λ_=>⟨w.heap.size,0,_,rfl,⟨U,by rw[bI];omega,λh=>by have:=(aX.e _ h).2;omega⟩,D.bm.2 (gh.2 ⟨A,L,L,none,0,0,rfl,Lk _,Lk _,bN,Sl.bR _⟩),λj v bi=>?_⟩⟩,rfl⟩,λh=>ad⟩;rw[LF,T.cell];simpa using bi
   ·
    have i0:i=22:=by simpa using an
    subst i0;obtain⟨A,al,hs,ar⟩:=aR.f ad;subst al ar;refine⟨_,J0,λK hK=>?_⟩;rw[if_pos (by rfl)];go_simp;refine hK _ _ (λ_=>z _) ?_
    try simp only
    have t:=bw (.cells #[.slice A 1 1] 68);obtain⟨A2,B,bN,_⟩:=t.f ad;injection B with B _ _;subst B;have T:=aq.new w 68 #[.slice A 1 1];refine ao a 3 bz ad ad _ _ _ _ _ _ _ _ _ _ E _ (C _) (aX.al (bv _)) ⟨λ_=>t.i ad,λ_=>t.f ad,λ_=>⟨_,rfl,rfl,λ_=>⟨w.heap.size,0,_,rfl,⟨U,by rw[bI];omega,λh=>by have:=(aX.e _ h).2;omega⟩,D.bm.2 (eV.2 ⟨A,1,1,rfl,Lk _,bN⟩),λj v bi=>?_⟩⟩⟩;rw[LF,T.cell];simpa using bi
   .simp at an
namespace Dq
theorem eU(h:p:=by
 refine b9 ?_;generalize hX:World.setCell _ _ _=Z;obtain⟨bk,bd,bg⟩:=bw (w:=w) [.slice bZ gn c1,.slice A2 (own u.af).length (own u.af).length,.slice cE 1 1,.int .i64 0] (by rfl) m.2.2.2.2.1 m.2.2.2.2.2 ad hX;have bh:=ag bd bg;clear hX bd bg bl aA aO;obtain⟨bl,aA,aO⟩:=bk.two;clear bk;go_wp2_with(fail);refine LU (v:=.agg #[.slice bZ gn c1,.slice A2 (own u.af).length (own u.af).length,.slice cE 1 1,.int .i64 0]) (by simp[results,Tryz.results16,go_sem,bl]) rfl ?_;have cR:=bh.2.size;have ci:u.globals.length=gn:=by have:=(ah.2.2).at_.g.1;rw[Lo] at this;exact this
 have aN:∀b,W.heap.size<=b->b<V.heap.size->Z.heap[b]?=V.heap[b]?:=λb ac au=>bh.2.block b au ad;have hm:∀b,W.heap.size<=b->b<V.heap.size->(False\/(w.heap.size<=b/\b<Z.heap.size)):=λb ac au=>.inr ⟨ad,ad⟩;have aT:=m.1.al (ab:=Z) λb O=>aN b (m.2.1 b O).1 (m.2.1 b O).2;rw[yi];have cZ:cY u u.main [] []=⟨u.main,0,List.replicate L 0,[]⟩:=by unfold cY;rw[cD.2.1];simp
 rw[cZ];exact⟨⟨bZ,gn,c1,A2,(own u.af).length,(own u.af).length,cE,1,1⟩,rfl,⟨⟨aT.sl (cx _) (by rw[Lo];exact ci) λb O=>hm b (m.2.1 b O).1 (m.2.1 b O).2,(m.2.2.1.al λb O=>aN b O.1 O.2.1).mono λb O=>hm b O.1 O.2.1,(m.2.2.2.1.al λb O=>aN b O.1 O.2.1).mono λb O=>hm b O.1 O.2.1⟩,aT.cap,Lk _,Lk _⟩,bh.1⟩
 ):p:=h
theorem lX(h:p:=by
 have ah:=aE aw cB (ce.on aw);have c5:=aw.size;have dw:=cB.lt;have bA:=(aw.cell cD.2.2.1 λh=>h).trans cD.2.2.2;have bp:pb<W.heap.size:=Ll cD.2.2.1 aw.size;obtain⟨a0,aj,af⟩:=aR.two;obtain⟨ws,nt⟩:∃ws,ws=W.heap.size:=⟨_,rfl⟩
 have ck:w.heap.size<ws:=ad;have cP:pb<ws:=ad;have aC:=ae nt;clear be aw aR cB nt;refine rC (λk=>¬k<ws) [24] (.free 1 (.held 2 (.free 4 (.held 5 (.free 9 (.held 10 (.free 11 (.held 12 (.free 13 (.held 14 (.free 15 (.free 16 (.held 17 (gS 8 0 0)))))))))))))) ?_;refine tf ?_;refine nh ?_;refine tf ?_;refine nh ?_;refine tf ?_;refine nh ?_;refine tf ?_;refine nh ?_;refine tf ?_;refine nh ?_
 iterate 2 refine tf ?_
 refine nh ?_;have aa:Ext W W.drew:=(Fr.refl _ W).drew;refine F7 (W:=W) (gs:=u.globals) (gn:=gn) (gc:=gc) (mn:=mn) (mc:=mc) (L:=L) (ws:=ws) (GA:=GA) (MA:=MA) (mi:=u.main) (X:=u.af) (p0:=?KR) (a0:=?Ky) (p3:=?KZ) (a3:=?KH) (p6:=?Ld) (a6:=?K7) (p7:=?K0) (a7:=?KI) (p8:=?K1) (a8:=?KJ) (p18:=?KU) (a18:=?KC) (p19:=?KV) (a19:=?KD) (p20:=?KW) (a20:=?KE) (p21:=?KX) (a21:=?KF) (p22:=?KY) (a22:=?KG) ?hG r3 ?hM ?hX ca ?nt ?o0 ?o3 ?o6 ?o7 ?o8 ?JW ?JX ?JY ?JZ ?J0 ?l7 8 0 0 ad ad ad undef undef undef undef undef undef undef undef undef undef [] W.drew aa ?sA ?sB
 case hG=>exact ah.2.2.at_.g
 case hM=>exact ah.2.2.at_.m.mT
 case hX=>exact cD.1.ok.vB
 case nt=>have:=aC.o;omega
 case o0=>rfl
 case o3=>rfl
 case o6=>rfl
 case o7=>rfl
 case o8=>rfl
 case JW=>rfl
 case JX=>rfl
 case JY=>rfl
 case JZ=>rfl
 case J0=>rfl
 case sA=>exact⟨.inl ⟨rfl,rfl,.inl ⟨rfl,rfl,rfl,rfl⟩⟩,λh=>ad,λh=>ad,λk ap=>by simp at ap⟩
 case sB=>exact⟨λh=>ad,λh=>ad,λh=>ad⟩
 case l7=>
  intro bt v6 aH v10 v11 q s y G H E V bm aX aR;obtain⟨bZ,c1,F,rfl,cA,U⟩:∃A c F,v6=.slice A gn c/\Own V 3 1 A gn c (u.globals.map df) F/\∀k∈F,W.heap.size<=k/\k<V.heap.size:=by
   rcases aX.g with⟨h,_⟩|⟨h,_⟩|⟨_,_,F,h,hF⟩
   .omega
   .omega
   .rcases h with⟨h,_⟩|⟨h,_⟩|⟨_,A,c,ac,au⟩
    .omega
    .omega
    .exact⟨A,c,F,ac,au,hF⟩
  obtain⟨A2,rfl,aM⟩:=aX.t ad;obtain⟨cE,rfl,aL⟩:=aR.h ad;have z:=ah.2.1.aj bm;have T:=ah.1.trans bm;have dm:=bm.size;have m:=cH cA U aM aL z T;obtain⟨bl,aA,aO⟩:=z.two;clear cA U aM aL z T aX aR bm a0 aj af bA;refine tf ?_;exact fp
 ):p:=h
end Dq
open Dq in
theorem J9(u:ay)(w:World)(p:UV)(hU:tV u)(hu:p.Ok w u) :
  Calls prog 16 #[.agg (p.val u)] w (GF (λ_=>False) w (dG u)):=by
 obtain⟨GA,gn,gc,MA,mn,mc,PA,pn,pc⟩:=p;obtain⟨dQ,bu,ai,a9,cf⟩:=hU.ok.main;have cw:=hU.ok.procs dQ (Ln ai);have bR:=cw.ints;have r3:gn<=100000:=by have ac:=hu.at_.g.1;have au:=hU.ok.ou;rw[Lo] at ac;have aY:u.globals.length=gn:=ac;omega
 have bp:=hu.at_.p.1;rw[Lo] at bp;simp only at bp;have cd:=(List.getElem?_eq_some_iff.1 ai).1;obtain⟨pb,gP,dn,bz,cp,b3,e,eQ,cL,b2,cG,ch,bA,b7,_,_⟩:=hu.at_.proc (k:=u.main.toNat) (by show u.main.toNat<pn;omega);simp only at e;subst e;rw[ai] at cL;injection cL with cL;subst cL;obtain⟨L,aG⟩:=Lp (a:=dQ.locals) ad;rw[aG] at bA;have ca:L<=100000:=ad;have b0:u.main<(pn:Int):=ad;have bK:eY u u.main=L:=by unfold eY;rw[ai];simp[aG]
 have cD:=bJ hU bK eQ bA;have ce:=ae hu;clear hU ai a9 cf cw bR hu bp cd b2 cG ch bA b7 aG bK;dsimp only[UV.val];go_enter func16,ntmps16;exact lW
structure RO(P:Nat->Prop)(B:Nat)(w:World)(s:ai)(k:Nat)(fs:List ak)(f:ak)(N:Nat)(q:SV)(O lb lc:Nat)(hx b3:List Value)(IA:L3)(ic:Nat)(S:L3)(aH:Nat)(F1 F2 bj:List Nat):Prop where
 th:s.threads[k]?=some (fs++[f])
 gl:q.gn=s.globals.length
 tl:q.tn=s.table.length
 hl:q.hn=s.threads.length
 g:Own w 3 1 q.GA q.gn q.gc (s.globals.map df) F1
 t:Own w 123 2 q.TA q.tn q.tc (s.table.flatMap bK) F2
 h:Own w 68 1 q.HA q.hn q.hc hx [O]
 mO:q.HA=some ⟨O,0,none⟩
 rk:∀j cT,j≠k->s.threads[j]?=some cT->∃u,hx[j]?=some u/\(jW cT).rep w P [u]
 zu:hx[k]?=some (.slice (some ⟨lb,0,none⟩) (fs.length+1) lc)
 l:Own w 72 4 (some ⟨lb,0,none⟩) (fs.length+1) lc (b3++[.int .i64 f.proc,.int .i64 f.pc,.slice IA f.ints.length ic,.slice S f.au.length aH]) [lb]
 fr:D.aQ w P (fs.map ew) b3
 lk:Sl w P S f.au.length (f.au.map D.i)
 Hp:f.au.length<=aH
 i:Own w 3 1 IA f.ints.length ic (f.ints.map df) bj
 o:aq w N 40 (q.val s)
 nd:(N::O::lb::(F1++(F2++bj))).Nodup
 lo:∀b∈N::O::lb::(F1++(F2++bj)),B<=b/\b<w.heap.size
 pb:∀b,P b->b<B
def IU(P:Nat->Prop)(w:World)(s:ai)(k:Nat)(fs:List ak)(f:ak)(e:Ending)(ab:World):Prop:=∃q O lb lc hx b3 IA ic S aH F1 F2 bj,e=.returned (.agg (q.val s))/\Ext w ab/\
 ∀V N,Ext ab V->aq V N 40 (q.val s)->ab.heap.size<=N->RO P w.heap.size V s k fs f N q O lb lc hx b3 IA ic S aH F1 F2 bj
namespace Dr
theorem eU(h:p:=by
 refine b9 ?_;generalize hX:World.setCell _ _ _=X;obtain⟨bO,b5⟩:=km 0 [.slice bZ gn c1,.slice A2 tn c2,.slice cE hn c3,.int .i64 s.fault] an hX;have br:aq X N 40 #[.slice bZ gn c1,.slice A2 tn c2,.slice cE hn c3,.int .i64 s.fault]:=bO;have bf:∀k∈F1++(F2++bT),k≠N:=by
  have:=eJ (A:=F1++(F2++bT)) (B:=[]) (x:=N) (by simpa using a5);simpa using this
 have cz:∀k,k∈F1++(F2++bT)->k∈F1++(F2++(bT++[N])):=λk ap=>by
  simp only[Lt] at ap ⊢;rcases ap with ap|ap|ap
  .exact .inl ap
  .exact .inr (.inl ap)
  .exact .inr (.inr (.inl ap))
 have ax:∀k∈F1++(F2++bT),X.heap[k]?=V.heap[k]?:=λk ap=>b5.block k (bB k (cz k ap)).2 (bf k ap);have bs:Ext W X:=Fr.low (M:=λb=>b=N) (Fr.trans (Fr.mono bm λ_ h=>h.elim) b5) λb O=>by rw[O];exact ci.1
 have aQ:=h2 (cA.al λk ap=>ax k (by simp[ap])) (aM.al λk ap=>ax k (by simp[ap])) (aL.al λk ap=>ax k (by simp[ap])) br a5 (λk ap=>(⟨(bB k ap).1,by have:=(bB k ap).2;have:=b5.size;omega⟩:W.heap.size<=k/\k<X.heap.size)) bs;obtain⟨a0,aj,af⟩:=(ah.2.1.aj bs).two;have aJ:Ext w X:=ah.1.trans bs;have n:∀b,P b->X.heap[b]?=w.heap[b]?:=λb O=>aJ.block b (bq.2.1 b O) λh=>h;obtain⟨dt,dY,c7,FA,m,fc,cq,T,r,de,cb,bV⟩:=bq.1.at_.h.kp (k:=t.toNat) (by show t.toNat<hn;omega);simp only at cq;subst cq;have dv:c7=fs++[f]:=by have:=bq.2.2.2.1;rw[r] at this;injection this
 subst dv;obtain rfl:m=fs.length+1:=by have:=bV.1;simpa using this.symm
 have dH:=(aJ.cell (j:=dY+t.toNat) (bq.2.1 _ T) λh=>h).trans de;have ds:=bV.al n;have cJ:dt<X.heap.size:=by have:=bq.2.1 _ T;have:=aJ.size;omega
 have cK:∀d∈(fs++[f]).map ew,d.sz=4:=λd hd=>by obtain⟨x,_,rfl⟩:=LL.1 hd;rfl
 obtain⟨dQ,ce,ay⟩:=Sl.src (z:=4) ds cK;rw[Lr] at ce;obtain⟨aZ,cU,rfl,aX,bv⟩:=D.j8 ce;obtain⟨IA,ii,ic,S,dM,aH,rfl,b0,a9,bN,cm⟩:=gh.1 (D.bm.1 bv);have dp:aZ.length=fs.length*4:=by rw[D.hj _ _ aX,D.gY (z:=4) (λd hd=>by obtain⟨x,_,rfl⟩:=LL.1 hd;rfl),Lo]
 obtain rfl:ii=f.ints.length:=by have:=bN.1;simpa using this.symm
 obtain rfl:dM=f.au.length:=by have:=cm.1;simpa using this.symm
 have dC:=bY.2.2.2;have bn:FA=none->fs.length+1=0:=λh=>by subst h;exact ds.none_
 have hIn:IA=none->f.ints.length=0:=λh=>by subst h;exact bN.none_
 have cQ:cp (EF cP) 1 X X.heap.size IA f.ints.length f.ints:=(bN.mono (c9:=av X) λb O=>by have:=bq.2.1 b O;have:=aJ.size;show b<X.heap.size;omega).ints;have bu:=cH aX cm a9 cQ aJ dp;have bD:=aE ay bn hIn;obtain⟨aV,cx,a2,dB,ct,cv,cC⟩:=aQ.2.2.1.block ad;subst cx;have cZ:=bJ a2 ct cv cC;clear e0 a6 aP hX bO b5 br bf cz ax cA aM aL an a5 bB bm r T de bV n cK ce bv aX cm bN b0 a9 cQ ay bn hIn aJ bs a2 ct cv cC ds cb;go_upto_region 3 with(at_builtin;refine fX _ xY (by rfl) (.tmp 22) (.tmp 28) (by rfl) (by rfl) _ _ _ _ (by rfl) bD.1 ad ad bD.2.1 ?_;intro dD co aS bb b1;have H1:=ag bb b1;clear bb b1);have cr:=H1.2.size;obtain⟨lb,dj,dg,bW,cM,dk,cN⟩:=im H1.1 ad;subst dj;have d2:aS.cell? ⟨lb,fs.length*4+2,none⟩=some (.slice IA f.ints.length ic):=cM _ _ (by rw[<-bu.2.2.2.2.2,List.getElem?_append_right ad,Nat.add_sub_cancel_left];rfl);have b6:Src aS 1 IA f.ints.length (f.ints.map df):=by
  have:=Src.lM (bu.2.2.2.1.c8 H1.2 H1.2.size) (jH _) (mY _) ad
  rwa [uA] at this
 have b8:=aE b6 dg cN;have cO:=dk;clear b6 cN cM;go_upto_region 4 with(at_builtin;refine fX _ dh (by rfl) (.tmp 34) (.tmp 41) (by rfl) (by rfl) _ _ _ _ (by rfl) b8.1 ad ad bD.2.2 ?_;intro cG c6 aU az bj;have bc:=ag az bj;obtain⟨f0,dL,dO⟩:aU.cell? ⟨lb,fs.length*4+2,none⟩=some (.slice IA f.ints.length ic)/\(∀j,aU.frozen? ⟨lb,j,none⟩=false)/\lb<aU.heap.size:=⟨((Fr.of (M:=λ_=>False) bj).cell bW λh=>h).trans d2,λj=>((Fr.of (M:=λ_=>False) bj).frozen bW λh=>h).trans (cO j),Ll bW bj.size⟩;clear az bj);generalize cu:World.setCell _ _ _=Y;obtain⟨dz,bX,-,-,-,-,b4⟩:=im (b3 H1.1 bc.2) ad;obtain rfl:lb=dz:=by simpa using bX
 have db:Y.ownsRow X.heap.size 72 4 (.slice (some ⟨lb,0,none⟩) (fs.length+1) co) (fs.length+1) ((aZ++[Value.int .i64 f.proc,.int .i64 f.pc,.slice IA f.ints.length ic,.slice S f.au.length aH]).set (fs.length*4+2) (.slice cG f.ints.length c6)):=by
  rw[<-cu];exact b4 _ _ ad
 have ar:Fr (λb=>b=lb) aU Y:=cu▸(Fr.refl (λb=>b=lb) _).setCell (.inl rfl) _;have cd:Ext X Y:=Fr.low (M:=λb=>b=lb) (Fr.trans (Fr.trans (Fr.of H1.2) (Fr.of (Below.mono bc.2 (Lk _)))) ar) λb O=>by rw[O];exact b8.2.1
 have bH:∀b∈bt cG f.ints.length c6,aS.heap.size<=b/\b<aU.heap.size:=λb O=>bc.1.lt b (by simpa using O);have c8:Own Y 3 1 cG f.ints.length c6 (f.ints.map df) (bt cG f.ints.length c6):=Own.al (w:=aU) ⟨hh bc.1 (LJ _),rfl⟩ λb O=>ar.block b (bH b O).2 (aD (bH b O));have cf:∀b∈bt cG f.ints.length c6,aS.heap.size<=b/\b<Y.heap.size:=λb O=>⟨(bH b O).1,Ll (bH b O).2 ar.size⟩
 have cV:=aQ.2.2.1.aj cd;have bg:=aQ.2.2.2.1.aj cd;obtain⟨e0,a6,aP⟩:=bg.two;have cn:hx.length=hn:=by
  rw[D.hj _ _ bq.2.2.2.2.1,D.gY (z:=1) (λd hd=>by obtain⟨x,_,rfl⟩:=LL.1 hd;rfl),Lo,Nat.mul_one];exact bY.2.2.1
 obtain⟨aR,am,-,dr,bL,dn,bS⟩:=cV.block ad;obtain rfl:aV=aR:=by simpa using am
 obtain⟨dN,dl⟩:∃u,hx[t.toNat]?=some u:=⟨_,List.getElem?_eq_getElem ad⟩
 have cL:=bL t.toNat dN dl;have dK:lb<Y.heap.size:=Ll dO ar.size;have dG:=cd.size;have dJ:=b8.2.1;have aK:=pH db cd c8 cf cV bg cn bS;clear dl cu bX b4 db ar cd bH c8 cf cV bg am bL bS f0 dL d2 cO cn;go_upto_region 5 with(fail);generalize bF:World.setCell _ _ _=Z;have a5:=aQ.2.2.2.2.1;have ab:=aQ.2.2.2.2.2.1;rw[cZ.1] at a5 ab;have bf:∀b∈F1++F2++[N],b≠aV:=eJ (A:=F1++F2) (B:=[N]) (x:=aV) (by simpa using a5);have c0:Own Z 68 1 (some ⟨aV,0,none⟩) hn c3 (hx.set t.toNat (.slice (some ⟨lb,0,none⟩) (fs.length+1) co)) bT:=bF▸aK.2.2.2.2.2.2.2 t.toNat _ ad;have aT:Fr (λb=>b=aV) Y Z:=bF▸(Fr.refl (λb=>b=aV) _).setCell (.inl rfl) _;have cY:∀b,b<X.heap.size->b≠aV->Z.heap[b]?=X.heap[b]?:=λb O hn=>(aT.block b (Ll O aK.2.1.size) hn).trans (aK.2.1.block b O λh=>h);have bG:=aQ.1.al λb O=>cY b (ab b (by simp[O])).2 (bf b (by simp[O]));have dd:=aQ.2.1.al λb O=>cY b (ab b (by simp[O])).2 (bf b (by simp[O]));have L:(aZ++[Value.int .i64 f.proc,.int .i64 f.pc,.slice IA f.ints.length ic,.slice S f.au.length aH]).set (fs.length*4+2) (.slice cG f.ints.length c6)=aZ++[Value.int .i64 f.proc,.int .i64 f.pc,.slice cG f.ints.length c6,.slice S f.au.length aH]:=by
  have:=bu.2.2.2.2.2;rw[List.set_append_right _ _ ad,this,Nat.add_sub_cancel_left];rfl
 have dc:Own Z 72 4 (some ⟨lb,0,none⟩) (fs.length+1) co (aZ++[Value.int .i64 f.proc,.int .i64 f.pc,.slice cG f.ints.length c6,.slice S f.au.length aH]) [lb]:=by
  rw[<-L];exact Own.al (w:=Y) ⟨hh aK.1 (LJ _),rfl⟩ λb O=>aT.block b (aD (LO.1 O)) (aD (LO.1 O))
 have cf:=aK.2.2.2.1;have da:=aK.2.2.1.al λb O=>aT.block b (cf b O).2 (aD (cf b O));have bk:=aK.2.2.2.2.2.1.on aT (bf N (by simp));have bx:Ext W Z:=Fr.low (M:=λb=>b=aV) (Fr.trans (Fr.mono (aQ.2.2.2.2.2.2.trans aK.2.1) λ_ h=>h.elim) aT) λb O=>by rw[O];exact(ab aV (by simp)).1
 have bp:=ah.2.2.1.aj bx;have bd:Ext w Z:=ah.1.trans bx;have y:∀b∈aV::lb::(F1++(F2++bt cG f.ints.length c6)),W.heap.size<=b/\b<Z.heap.size:=by
  have ac:=aQ.2.2.2.2.2.2.size;have au:=aT.size;intro b O;rcases LC.1 O with O|O
  .have:=ab aV (by simp);omega
  rcases LC.1 O with O|O
  .omega
  rcases Lt.1 O with O|O
  .have:=ab b (by simp[O]);omega
  rcases Lt.1 O with O|O
  .have:=ab b (by simp[O]);omega
  .have:=cf b O;omega
 have aW:(aV::lb::(F1++(F2++bt cG f.ints.length c6))).Nodup:=by
  have dA:(F1++F2).Nodup:=by have:=a5;rw[<-List.append_assoc] at this;exact(List.nodup_append.1 this).1
  have cS:(F1++F2++bt cG f.ints.length c6).Nodup:=List.nodup_append.2 ⟨dA,eZ _ _ _,λa bz b O h=>by
   have aY:=cf b O;have bR:a<X.heap.size:=(ab a (by rcases Lt.1 bz with h|h<;>simp[h])).2;omega⟩
  rw[Ly] at cS;refine List.nodup_cons.2 ⟨λh=>?_,List.nodup_cons.2 ⟨λh=>?_,cS⟩⟩
  .rcases LC.1 h with O|O
   .omega
   rcases Lt.1 O with O|O
   .exact bf aV (by simp[O]) rfl
   rcases Lt.1 O with O|O
   .exact bf aV (by simp[O]) rfl
   .have:=cf aV O;omega
  .rcases Lt.1 h with O|O
   .have:=ab lb (by simp[O]);omega
   rcases Lt.1 O with O|O
   .have:=ab lb (by simp[O]);omega
   .have:=cf lb O;omega
 have cn:=aK.2.2.2.2.2.2.1;obtain⟨e0,a6,aP⟩:=bk.two;obtain⟨bl,aA,aO⟩:=bp.two;have bh:=Af bG dd c0 dc da bp bd y aW cn;clear bF a5 ab bf c0 aT cY bG dd L dc cf da bk bx bp bd y aW cn cL dn;go_wp2_with(fail);generalize hU:World.setCell _ _ _=U;obtain⟨c4,cw,bE⟩:=bw (w:=w) [.slice bZ gn c1,.slice A2 tn c2,.slice (some ⟨aV,0,none⟩) hn c3,.int .i64 s.fault] (by rfl) bh.2.2.2.2.2.1 bh.2.2.2.2.2.2.1 ad hU;have cD:=ag cw bE;clear hU cw bE e0 a6 aP bl aA aO;obtain⟨bl,aA,aO⟩:=c4.two;refine LU (v:=.agg #[.slice bZ gn c1,.slice A2 tn c2,.slice (some ⟨aV,0,none⟩) hn c3,.int .i64 s.fault]) (by simp[results,Tryz.results56,go_sem,bl]) rfl ?_;obtain⟨hG,hT,hH,bU,hI,-,-,y,aW,cn⟩:=bh.o;refine⟨⟨bZ,gn,c1,A2,tn,c2,some ⟨aV,0,none⟩,hn,c3⟩,aV,lb,co,hx.set t.toNat (.slice (some ⟨lb,0,none⟩) (fs.length+1) co),aZ,cG,c6,S,aH,F1,F2,bt cG f.ints.length c6,rfl,cD.1,λV dF bm b7 dI=>?_⟩;have bE:=cD.2;have cX:=bE.size;have dm:=bm.size;have dq:∀b,W.heap.size<=b->b<Z.heap.size->V.heap[b]?=Z.heap[b]?:=λb ac au=>(bm.block b ad λh=>h).trans (bE.block b au ad);have cW:∀b,P b->V.heap[b]?=w.heap[b]?:=λb O=>(cD.1.trans bm).block b (bq.2.1 b O) λh=>h;have ch:∀b,P b->V.heap[b]?=X.heap[b]?:=λb O=>(cW b O).trans (bu.2.2.2.2.1.block b (bq.2.1 b O) λh=>h).symm;have aN:∀b∈aV::lb::(F1++(F2++bt cG f.ints.length c6)),V.heap[b]?=Z.heap[b]?:=λb O=>dq b (y b O).1 (y b O).2;have a2:=cZ.1;have du:t.toNat<hx.length:=ad
 refine {th:=bq.2.2.2.1,gl:=bY.1.symm,tl:=bY.2.1.symm,hl:=bY.2.2.1.symm,g:=hG.al λb O=>aN b (by simp[O]),t:=hT.al λb O=>aN b (by simp[O]),h:=?_,mO:=rfl,rk:=λj cT bi cc=>?_,zu:=by simp[du],l:=bU.al λb O=>aN b (by simp[LO.1 O]),fr:=D.bY ch _ _ bu.1,lk:=bu.2.1.al ch,Hp:=bu.2.2.1,i:=hI.al λb O=>aN b (by simp[O]),o:=b7,nd:=?_,lo:=λb O=>?_,pb:=bq.2.1}
 .rw[<-a2];exact hH.al λb O=>aN b (by rw[a2] at O;simp[LO.1 O])
 .obtain⟨cs,ba,dE,ca⟩:=D.pv (z:=1) bq.2.2.2.2.1 (λd hd=>by obtain⟨x,_,rfl⟩:=LL.1 hd;rfl) (k:=j) (d:=jW cT) (by rw[List.getElem?_map,cc];rfl);obtain⟨u,rfl⟩:=List.length_eq_one_iff.1 dE;have h0:=ca 0 u rfl;simp only[Nat.mul_one,Lu] at h0;exact⟨u,by rw[List.getElem?_set_ne (λh=>bi h.symm)];exact h0,D.aS cW _ _ ba⟩
 .exact List.nodup_cons.2 ⟨λh=>by have:=y dF h;omega,aW⟩
 .rcases LC.1 O with O|O
  .subst O;exact⟨ad,b7.lt⟩
  .have:=y b O;omega
 ):p:=h
end Dr
open Dr in
theorem Gf(P:Nat->Prop)(s:ai)(t:Int)(fs:List ak)(f:ak)(q:SV)(w:World)(h:q.Is w P s)(a1:∀b,P b->b<w.heap.size)(bI:Small s)(di:0<=t)(bA:s.threads[t.toNat]?=some (fs++[f])) :
  Calls prog 56 #[.agg (q.val s),.int .i64 t] w (IU P w s t.toNat fs f):=by
 obtain⟨GA,gn,gc,TA,tn,tc,HA,hn,hc⟩:=q;have bM:=h.ok a1;have ci:s.globals.length=gn:=by have ac:=h.at_.g.1;rw[Lo] at ac;exact ac
 have cy:s.table.length=tn:=by have ac:=h.at_.t.1;rw[Lo] at ac;exact ac
 have cl:s.threads.length=hn:=by have ac:=h.at_.h.1;rw[Lo] at ac;exact ac
 have r3:gn<=100000:=by have:=bI.g;omega
 have tW:tn<=100000:=by have:=bI.t;omega
 have pd:hn<=100000:=by have:=bI.h;omega
 have dy:t<(hn:Int):=by have:=(List.getElem?_eq_some_iff.1 bA).1;omega
 have cg:=(bI.f _ (Ln bA)).1;rw[Lm] at cg;simp only[Lx,LG] at cg;have cF:=(bI.f _ (Ln bA)).2 f (by simp);obtain⟨hx,aB,bo⟩:=Sl.src (z:=1) h.at_.h (λd hd=>by obtain⟨x,_,rfl⟩:=LL.1 hd;rfl);have bq:=cH h a1 bM bA aB bo;have bY:=bJ ci cy cl cF;clear h a1 bM bA aB bo ci cy cl bI cF;dsimp only[SV.val];go_enter func56,ntmps56;go_upto_region 1 with(fail);generalize be:World.alloc _ _=W;have aw:=iS be;have bC:=gG be;have cB:=gf be;have ah:=bJ aw bC cB (bq.2.2.1.on aw);have c5:=aw.size;have dw:=cB.lt;obtain⟨a0,aj,af⟩:=bC.two;obtain⟨ws,nt⟩:∃ws,ws=W.heap.size:=⟨_,rfl⟩
 have ck:w.heap.size<ws:=ad;have aC:=ae nt;clear be aw bC cB nt;refine rC (λb=>¬b<ws) [16] (.free 1 (.held 2 (.free 5 (.held 6 (.free 9 (.held 10 (.free 12 (.held 13 (jm 8 0 0 0 false))))))))) ?_;refine tf ?_;refine nh ?_;refine tf ?_;refine nh ?_;refine tf ?_;refine nh ?_;refine tf ?_;refine nh ?_;refine FH (W:=W) (s:=s) (gn:=gn) (tn:=tn) (hn:=hn) (gc:=gc) (tc:=tc) (hc:=hc) (GA:=GA) (TA:=TA) (HA:=HA) (hx:=hx) (ws:=ws) (p0:=?KR) (a0:=?Ky) (p3:=?KZ) (a3:=?KH) (p4:=?Lc) (a4:=?K6) (p7:=?K0) (a7:=?KI) (p8:=?K1) (a8:=?KJ) (p11:=?KS) (a11:=?Kz) (p15:=?KT) (a15:=?KB) (t15:=?K2) (aa:=(λbP cj v10 v11 aF aI aG=>⟨#[.agg #[.slice GA gn gc,.slice TA tn tc,.slice HA hn hc,.int .i64 s.fault],.int .i64 t,.pointer (some ⟨w.heap.size,0,none⟩),undef,.pointer (some ⟨w.heap.size+1,0,none⟩),bP,undef,cj,.pointer (some ⟨w.heap.size,0,none⟩),.slice GA gn gc,v10,v11,.pointer (some ⟨w.heap.size,1,none⟩),.slice TA tn tc,aF,aI,.pointer (some ⟨w.heap.size,2,none⟩),.slice HA hn hc,aG,.pointer (some ⟨w.heap.size,3,none⟩),.int .i64 s.fault,undef,undef,undef,undef,undef,undef,undef,undef,undef,undef,undef,undef,undef,undef,undef,undef,undef,undef,undef,undef,undef,undef,undef,undef,undef,undef,undef,undef,undef,undef,undef],[]⟩)) ?hG ?hT ?hH ?JR ?r3 ?tW ?pd ?nt ?o0 ?o3 ?o4 ?o7 ?o8 ?JU ?JV ?q5 ?q7 ?Fs ?Jp ?J5 ?J6 ?J7 ?e7 ?e9 ?JJ ?JK ?JL ?JM ?l7 8 0 0 0 false ?n1 ?n2 ?n3 ?n4 ?n5 ?n6 undef undef undef undef undef undef undef [] [] [] [] W.drew ?start
 case hG=>exact ah.2.2.2.at_.g
 case hT=>exact ah.2.2.2.at_.t
 case hH=>exact bq.2.2.2.2.2.on (Fr.ext ah.1)
 case JR=>exact λh=>by subst h;exact ah.2.2.2.at_.h.none_
 case r3=>exact r3
 case tW=>exact tW
 case pd=>exact pd
 case nt=>have:=aC.o;omega
 case o0=>rfl
 case o3=>rfl
 case o4=>rfl
 case o7=>rfl
 case o8=>rfl
 case JU=>rfl
 case JV=>rfl
 case q5=>intro _ _ _ _ _ _ _ _;rfl
 case q7=>intro _ _ _ _ _ _ _ _;rfl
 case Fs=>intro _ _ _ _ _ _ _ _;rfl
 case Jp=>intro _ _ _ _ _ _ _ _;rfl
 case J5=>intro _ _ _ _ _ _ _ _;rfl
 case J6=>intro _ _ _ _ _ _ _ _;rfl
 case J7=>intro _ _ _ _ _ _ _ _;rfl
 case e7=>intro _ _ _ _ _ _ _;rfl
 case e9=>intro _ _ _ _ _ _ _;rfl
 case JJ=>intro _ _ _ _ _ _ _;rfl
 case JK=>intro _ _ _ _ _ _ _;rfl
 case JL=>intro _ _ _ _ _ _ _;rfl
 case JM=>intro _ _ _ _ _ _ _;rfl
 case n1=>omega
 case n2=>omega
 case n3=>omega
 case n4=>omega
 case n5=>omega
 case n6=>simp
 case start=>exact⟨LW.drew,.inl ⟨rfl,rfl,rfl,rfl⟩,.inl ⟨rfl,rfl,rfl,rfl⟩,.inl ⟨rfl,rfl,rfl,rfl⟩,.inl ⟨rfl,rfl,rfl⟩,by simp,λk ap=>by simp at ap⟩
 case l7=>
  intro b bP cj v10 v11 aF aI aG F1 F2 bT b2 V hC;obtain⟨bZ,c1,rfl,cA⟩:∃A c,v10=.slice A gn c/\Own V 3 1 A gn c (s.globals.map df) F1:=by
   rcases hC.g with⟨h,_⟩|⟨h,_⟩|⟨_,h⟩
   .cases h
   .cases h
   .exact h
  obtain⟨A2,c2,rfl,aM⟩:∃A c,aF=.slice A tn c/\Own V 123 2 A tn c (s.table.flatMap bK) F2:=by
   rcases hC.t with⟨h,_⟩|⟨h,_⟩|⟨_,h⟩
   .cases h
   .cases h
   .exact h
  obtain⟨cE,c3,rfl,aL⟩:∃A c,aG=.slice A hn c/\Own V 68 1 A hn c hx bT:=by
   rcases hC.h with⟨h,_⟩|⟨h,_⟩|⟨_,h⟩
   .cases h
   .cases h
   .exact h
  refine tf ?_;refine xq (P:=?P1) (ops:=?Lb) (Q:=?Lf) (R:=?Lh) (tails:=?Lj) (rest:=.pick [16] (λ_=>.stop)) (aa:=?K8) (C:=λ(N:Nat) V=>Ext W V/\Own V 3 1 bZ gn c1 (s.globals.map df) F1/\Own V 123 2 A2 tn c2 (s.table.flatMap bK) F2/\Own V 68 1 cE hn c3 hx bT/\aq V N 40 #[.slice none 0 0,.slice none 0 0,.slice none 0 0,.int .i64 0]/\(F1++(F2++(bT++[N]))).Nodup/\∀k∈F1++(F2++(bT++[N])),W.heap.size<=k/\k<V.heap.size) (λkey=>?main) ?key
  case main=>
   rcases hC.o with⟨rfl,rfl,bR⟩|⟨rfl,N,rfl,bR,cI⟩
   .subst bR;show cR _ _ _ _ _ (.pick [15] λ_=>.pick [16] λ_=>.stop) _ _
    refine ao ?_;refine dT ?_;have al:∀k∈F1++(F2++(bT++[])),k<V.heap.size:=λk ap=>(hC.lo k ap).2;have hD:Ext W (V.alloc (.cells #[.slice none 0 0,.slice none 0 0,.slice none 0 0,.int .i64 0] 40))/\Own (V.alloc (.cells #[.slice none 0 0,.slice none 0 0,.slice none 0 0,.int .i64 0] 40)) 3 1 bZ gn c1 (s.globals.map df) F1/\Own (V.alloc (.cells #[.slice none 0 0,.slice none 0 0,.slice none 0 0,.int .i64 0] 40)) 123 2 A2 tn c2 (s.table.flatMap bK) F2/\Own (V.alloc (.cells #[.slice none 0 0,.slice none 0 0,.slice none 0 0,.int .i64 0] 40)) 68 1 cE hn c3 hx bT/\aq (V.alloc (.cells #[.slice none 0 0,.slice none 0 0,.slice none 0 0,.int .i64 0] 40)) V.heap.size 40 #[.slice none 0 0,.slice none 0 0,.slice none 0 0,.int .i64 0]/\(F1++(F2++(bT++[V.heap.size]))).Nodup/\∀k∈F1++(F2++(bT++[V.heap.size])),W.heap.size<=k/\k<(V.alloc (.cells #[.slice none 0 0,.slice none 0 0,.slice none 0 0,.int .i64 0] 40)).heap.size:=by
     refine⟨hC.ext.alloc _,cA.aj (LW.alloc _),aM.aj (LW.alloc _),aL.aj (LW.alloc _),LX,?_,λk ap=>?_⟩
     .have:=qx (F1:=F1++(F2++bT)) (F2:=[]) (by simpa using hC.nd) (by simpa using al);simpa using this
     .rw[World.kR];have dm:=hC.ext.size;rcases ha.dj.1 ap with ap|ap|ap|ap
      .have:=hC.lo k (ha.dj.2 (.inl ap));omega
      .have:=hC.lo k (ha.dj.2 (.inr (.inl ap)));omega
      .have:=hC.lo k (ha.dj.2 (.inr (.inr (.inl ap))));omega
      .have:=LO.1 ap;omega
    generalize V.alloc (.cells #[.slice none 0 0,.slice none 0 0,.slice none 0 0,.int .i64 0] 40)=dx at hD ⊢;generalize V.heap.size=N at hD ⊢;exact key N dx hD
   .subst bR;show cR _ _ _ _ _ (.pick [16] λ_=>.stop) _ _
    exact key N V ⟨hC.ext,cA,aM,aL,cI,hC.nd,hC.lo⟩
  clear hC cA aM aL V b;intro N V ⟨bm,cA,aM,aL,an,a5,bB⟩;obtain⟨e0,a6,aP⟩:=an.two;have ci:=bB N (by simp);clear a0 aj af;exact fp
end Go.Proofs.YtkhnkojkplbioaaGreat

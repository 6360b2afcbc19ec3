/- Part 26 of the proof. No condition of its own. -/
import Derived.Test.YtglbpimocmhojaaGreatQ25
namespace Go.Proofs.YtglbpimocmhojaaGreat
open Go.RowKit Go.Proofs.Tryz
set_option maxRecDepth 1000000
set_option maxHeartbeats 25600000
set_option linter.unusedVariables false
variable{p:Prop}
def xF(a b:Nat):List Nat:=(bif a == 0 then [0] else bif a == 1 then [3] else bif a == 2 then [6] else bif a == 3 then [8] else [])++(bif b == 0 then [18] else bif b == 1 then [20] else bif b == 2 then [22] else [])
def gN:Nat->Nat->Nat->PT
 | 0,_,_=>.stop
 | n+1,a,b=>bif a == 4 && b == 3 then .free 23 (.pick [24] λ_=>.stop) else .pick (xF a b) λi=>
   bif i == 0 then gN n 1 b else bif i == 3 then gN n 2 b else bif i == 6 then .free 7 (gN n 3 b) else bif i == 8 then gN n 4 b else bif i == 18 then .free 19 (gN n a 1) else bif i == 20 then .free 21 (gN n a 2) else gN n a 3
abbrev wc(W w:World)(E:List Nat):Nat->Prop:=λk=>W.heap.size<=k/\k<w.heap.size/\k∉E
structure HZ(W:World)(gs:List Int)(gn m:Nat)(w:World)(a:Nat)(aj v6 a4 v10 v11:Value)(E:List Nat):Prop where
 g:(a=0/\E=[]/\iq 3 1 gn (gs.map dc) w 0 aj v6 [])\/(a=1/\iq 3 1 gn (gs.map dc) w 1 aj v6 E)\/(2<=a/\E=[]/\∃F,iq 3 1 gn (gs.map dc) w 2 aj v6 F/\∀k∈F,W.heap.size<=k/\k<w.heap.size)
 o:3<=a->v10=.int .i64 (m:Int)
 t:4<=a->∃A,v11=.slice A m m/\Sl w (wc W w []) A m ((List.replicate m ⟨0,0⟩).map lh)
 e:∀k∈E,W.heap.size<=k/\k<w.heap.size
structure HN(W:World)(mi:Int)(L:Nat)(w:World)(b:Nat)(q s y G H:Value)(E:List Nat):Prop where
 i:1<=b->∃A,q=.slice A L L/\Sl w (wc W w E) A L ((List.replicate L 0).map D.i)/\s=.agg #[.int .i64 mi,.int .i64 0,.slice A L L,.slice none 0 0]
 f:2<=b->∃A,y=.slice A 1 1/\Sl w (wc W w E) A 1 ([(⟨mi,0,List.replicate L 0,[]⟩:al)].map er)/\G=.agg #[.slice A 1 1]
 h:3<=b->∃A,H=.slice A 1 1/\Sl w (wc W w E) A 1 ([[(⟨mi,0,List.replicate L 0,[]⟩:al)]].map jP)
theorem HZ.ak{W:World}{gs:List Int}{gn m a:Nat}{w ab:World}{aj v6 a4 v10 v11:Value}{E:List Nat}(h:HZ W gs gn m w a aj v6 a4 v10 v11 E)(aw:Ext w ab):HZ W gs gn m ab a aj v6 a4 v10 v11 E:=by
 have ap:∀k,k<w.heap.size->ab.heap[k]?=w.heap[k]?:=λk ap=>aw.block k ap λh=>h;have hs:=aw.size;refine⟨?_,h.o,λbx=>?_,λk ap=>⟨(h.e k ap).1,by have:=(h.e k ap).2;omega⟩⟩
 .rcases h.g with⟨ac,au,aU⟩|⟨ac,au⟩|⟨ac,au,F,aU,bE⟩
  .exact .inl ⟨ac,au,aU.ak λk ap=>by simp at ap⟩
  .exact .inr (.inl ⟨ac,au.ak λb O=>ap b (h.e b O).2⟩)
  .exact .inr (.inr ⟨ac,au,F,aU.ak λb O=>ap b (bE b O).2,λk ap=>⟨(bE k ap).1,by have:=(bE k ap).2;omega⟩⟩)
 .obtain⟨A,ac,au⟩:=h.t bx;exact⟨A,ac,(au.ak λb O=>ap b O.2.1).mono λb O=>⟨O.1,by have:=O.2.1;omega,O.2.2⟩⟩
theorem HN.ak{W:World}{mi:Int}{L b:Nat}{w ab:World}{q s y G H:Value}{E a:List Nat}(h:HN W mi L w b q s y G H E)(hs:w.heap.size<=ab.heap.size)(ap:∀k,W.heap.size<=k->k<w.heap.size->k∉E->ab.heap[k]?=w.heap[k]?/\k∉a):HN W mi L ab b q s y G H a:=by
 have cb:∀b,wc W w E b->ab.heap[b]?=w.heap[b]?:=λb O=>(ap b O.1 O.2.1 O.2.2).1;have hm:∀b,wc W w E b->wc W ab a b:=λb O=>⟨O.1,by have:=O.2.1;omega,(ap b O.1 O.2.1 O.2.2).2⟩
 refine⟨λO=>?_,λO=>?_,λO=>?_⟩
 .obtain⟨A,ac,au,aU⟩:=h.i O;exact⟨A,ac,(au.ak cb).mono hm,aU⟩
 .obtain⟨A,ac,au,aU⟩:=h.f O;exact⟨A,ac,(au.ak cb).mono hm,aU⟩
 .obtain⟨A,ac,au⟩:=h.h O;exact⟨A,ac,(au.ak cb).mono hm⟩
theorem Fg{ops:Array Oper}{Q:Exit->Act->World->Prop}{W:World}{gs:List Int}{gn gc mn mc L ws:Nat}{GA MA:Lp}{mi:Int}{X:List bG}{bs Z bA aC aA N Y aa af ag ah ai ak:Value}{a0 a3 a6 a7 a8 a18 a19 a20 a21 a22:Array Edge}{p0 p3 p6 p7 p8 p18 p19 p20 p21 p22:String}
  (hG:Sl W (av W) GA gn (gs.map D.i)) (ry:gn<=100000) (hM:cx (EF gy) 3 W W.heap.size MA mn X) (hX:m1 X) (bR:L<=100000) (m0:ws<=W.heap.size)
  (o0:ops[0]?=some ⟨some 3,.buildSlice 22 0 #[],22,p0,a0,none⟩)
  (o3:ops[3]?=some ⟨some 6,.call {callee:=.builtin .append,args:=#[.tmp 3,.tmp 5],argTypes:=#[22,22]},22,p3,a3,none⟩)
  (o6:ops[6]?=some ⟨some 9,.call {callee:=.value (.func 27),args:=#[.tmp 8],argTypes:=#[24]},22,p6,a6,none⟩)
  (o7:ops[7]?=some ⟨some 10,.call {callee:=.builtin .len,args:=#[.tmp 9],argTypes:=#[22]},3,p7,a7,none⟩)
  (o8:ops[8]?=some ⟨some 11,.makeSlice 37 (.tmp 10) (.tmp 10),37,p8,a8,none⟩)
  (Jf:ops[18]?=some ⟨some 21,.makeSlice 22 (.tmp 20) (.tmp 20),22,p18,a18,none⟩)
  (Jg:ops[19]?=some ⟨some 22,.build 75 #[(0,.tmp 13),(2,.tmp 21)],75,p19,a19,none⟩)
  (Jh:ops[20]?=some ⟨some 23,.buildSlice 77 1 #[(0,.tmp 22)],77,p20,a20,none⟩)
  (Ji:ops[21]?=some ⟨some 24,.build 79 #[(0,.tmp 23)],79,p21,a21,none⟩)
  (Jj:ops[22]?=some ⟨some 25,.buildSlice 38 1 #[(0,.tmp 24)],38,p22,a22,none⟩)
  (lU:∀aj v6 a4 v10 v11 q s y G H E w,Ext W w->HZ W gs gn (own X).length w 4 aj v6 a4 v10 v11 E->HN W mi L w 3 q s y G H E->cN prog ops Q (Fr (λk=>¬k<ws)) [24] (.free 23 (.pick [24] λ_=>.stop)) ⟨#[bs,Z,bA,aj,aC,.slice GA gn gc,v6,aA,.slice MA mn mc,a4,v10,v11,N,.int .i64 mi,Y,aa,af,ag,ah,ai,.int .i64 (L:Int),q,s,y,G,H,ak],[]⟩ w) :
  ∀(n a b:Nat),a<=4->b<=3->8<=n+a+b->∀aj v6 a4 v10 v11 q s y G H E w,Ext W w->HZ W gs gn (own X).length w a aj v6 a4 v10 v11 E->HN W mi L w b q s y G H E->
   cN prog ops Q (Fr (λk=>¬k<ws)) [24] (gN n a b) ⟨#[bs,Z,bA,aj,aC,.slice GA gn gc,v6,aA,.slice MA mn mc,a4,v10,v11,N,.int .i64 mi,Y,aa,af,ag,ah,ai,.int .i64 (L:Int),q,s,y,G,H,ak],[]⟩ w:=by
 intro n
 induction n with
 | zero=>intro a b bx O hn;omega
 | succ n ao=>
  intro a b bx O hn aj v6 a4 v10 v11 q s y G H E w aw bw aR;unfold gN
  cases ay:(a == 4 && b == 3) with
  | true=>
   simp only[KP,beq_iff_eq] at ay;obtain⟨rfl,rfl⟩:=ay
   exact lU _ _ _ _ _ _ _ _ _ _ _ _ aw bw aR
  | false=>
  have U:=aw.size;have z:∀o:Obj,Fr (λk=>¬k<ws) w (w.alloc o):=λo=>Ll.alloc o;have bZ:∀o:Obj,(w.alloc o).heap.size=w.heap.size+1:=λo=>World.kH w o;have C:∀o:Obj,Ext W (w.alloc o):=λo=>aw.alloc o;have J:∀o:Obj,Ext w (w.alloc o):=λo=>Ll.alloc o;have br:∀o:Obj,HN W mi L (w.alloc o) b q s y G H E:=λo=>aR.ak (by rw[bZ];omega) λk _ ap hn=>⟨Below.heap_alloc w o k ap,hn⟩
  intro i an;simp only[xF,KM] at an;rcases an with an|an
  .have cF:a=0\/a=1\/a=2\/a=3\/a=4:=ad;rcases cF with rfl|rfl|rfl|rfl|rfl
   ·
    have i0:i=0:=by simpa using an
    subst i0;obtain⟨m,a5⟩:E=[]/\iq 3 1 gn (gs.map dc) w 0 aj v6 []:=by
     rcases bw.g with⟨_,au,aU⟩|⟨ac,_⟩|⟨ac,_⟩
     .exact⟨au,aU⟩
     .omega
     .omega
    subst m;obtain⟨_,_,c4⟩:=a5.begin rfl;refine⟨_,o0,λK hK=>?_⟩;rw[if_pos (by rfl)];refine Ex (hK _ _ (λ_=>z _) ?_)
    try simp only[PU]
    refine ao 1 b ad O ad _ _ _ _ _ _ _ _ _ _ [w.heap.size] _ (C _) ⟨.inr (.inl ⟨rfl,c4⟩),λh=>ad,λh=>ad,λk ap=>?_⟩ (aR.ak (by rw[bZ];omega) λk _ ap hn=>⟨Below.heap_alloc w _ k ap,λh=>by have:=Lf.1 h;omega⟩);rw[bZ];have:=Lf.1 ap;omega
   ·
    have i0:i=3:=by simpa using an
    subst i0;have a5:iq 3 1 gn (gs.map dc) w 1 aj v6 E:=by
     rcases bw.g with⟨ac,_⟩|⟨_,aU⟩|⟨ac,_⟩
     .omega
     .exact aU
     .omega
    refine⟨_,o3,λK hK=>?_⟩;rw[if_pos (by rfl)];refine iq.fill a5 de (.tmp 3) (.tmp 5) rfl rfl rfl (by have:=Src.lv (hG.on (Fr.ext aw)).ints (jA _) (mH _) ad;rwa [tG] at this) ad ad (λh=>by subst h;exact hG.none_) (λv ab R c4 cb bu r=>?_);have cn:=cb.size;have l:∀k∈E,W.heap.size<=k:=λk ap=>(bw.e k ap).1;have S:Ext W ab:=Fr.low (M:=λk=>k∈E) (Fr.trans (Fr.mono aw λ_ h=>h.elim) cb) l;refine hK _ _ (λ_=>cb.mono λk ap=>by have:=l k ap;omega) ?_
    try simp only[PU]
    refine ao 2 b ad O ad _ _ _ _ _ _ _ _ _ _ [] _ S ⟨.inr (.inr ⟨ad,rfl,R,c4,λk ap=>?_⟩),λh=>ad,λh=>ad,λk ap=>by simp at ap⟩ (aR.ak cn λk _ ap hn=>⟨cb.block k ap hn,by simp⟩);have ac:=r k ap;have:W.heap.size<=k:=by rcases ac.1 with au|au;exact l k au;omega
    omega
   ·
    have i0:i=6:=by simpa using an
    subst i0;refine⟨_,o6,λK hK=>?_⟩;rw[if_pos (by rfl)];go_simp;refine(l2 MA mn mc X w (hM.c8 (Fr.ext aw) (Fr.ext aw).size) hX).mono ?_;rintro e ab ⟨I,aJ,rfl,hc,hs,aV⟩;have d:Ext w ab:=Fr.of aV;refine hK _ _ (λ_=>Fr.mono d λ_ h=>h.elim) ?_
    try simp only
    show cN _ _ _ _ _ (.free 7 (gN n 3 b)) _ _
    refine k8 (v:=?_) o7 (by rfl) (λV=>?_) ?_;rotate_left
    ·(go_simp<;>with_reducible rfl)
    try simp only[PU]
    have am:=bw.ak d;have a2:2<=2/\E=[]/\∃F,iq 3 1 gn (gs.map dc) ab 2 aj v6 F/\∀k∈F,W.heap.size<=k/\k<ab.heap.size:=by
     rcases am.g with⟨ac,_⟩|⟨ac,_⟩|aU
     .omega
     .omega
     .exact aU
    exact ao 3 b ad O ad _ _ _ _ _ _ _ _ _ _ E _ (aw.trans d) ⟨.inr (.inr ⟨ad,a2.2⟩),λ_=>rfl,λh=>ad,am.e⟩ (aR.ak d.size λk _ ap hn=>⟨d.block k ap λh=>h,hn⟩)
   ·
    have i0:i=8:=by simpa using an
    subst i0;have c:=bw.o ad;subst c;have hm:=cA hX;have d3:=λW=>run_mk (P:=prog) kN .i64 .i64 (own X).length ad ad W;have aB:=wg (e:=107) (f:=bH) (x:=⟨0,0⟩) (zc:=#[.int .i64 0,.int .i64 0]) (sz:=2) rfl rfl ad (own X).length ad (w:=w) (base:=w.heap.size) (KD _);refine⟨_,o8,λK hK=>?_⟩;rw[if_pos (by rfl)];have bM:=ae aB;clear aB;go_simp;refine hK _ _ (λ_=>z _) ?_
    try simp only
    have am:=bw.ak (J (.cells (madeCells #[.int .i64 0,.int .i64 0] ((own X).length*2)) 107));have a2:2<=3/\E=[]/\∃F,iq 3 1 gn (gs.map dc) (w.alloc (.cells (madeCells #[.int .i64 0,.int .i64 0] ((own X).length*2)) 107)) 2 aj v6 F/\∀k∈F,W.heap.size<=k/\k<(w.alloc (.cells (madeCells #[.int .i64 0,.int .i64 0] ((own X).length*2)) 107)).heap.size:=by
     rcases am.g with⟨ac,_⟩|⟨ac,_⟩|aU
     .omega
     .omega
     .exact aU
    refine ao 4 b ad O ad _ _ _ _ _ _ _ _ _ _ E _ (C _) ⟨.inr (.inr ⟨ad,a2.2⟩),λ_=>rfl,λ_=>⟨_,rfl,?_⟩,am.e⟩ (br _);exact Sl.p9 bM.o (dw _) (by simp) λg _ ac au=>⟨ad,au,by simp⟩
   .simp at an
  .have cF:b=0\/b=1\/b=2\/b=3:=ad;rcases cF with rfl|rfl|rfl|rfl
   ·
    have i0:i=18:=by simpa using an
    subst i0;have d3:=λW=>run_mk (P:=prog) de .i64 .i64 L ad ad W;have aB:=wg (e:=3) (f:=cT) (x:=0) (zc:=#[.int .i64 0]) (sz:=1) rfl rfl ad L ad (w:=w) (base:=w.heap.size) (KD _);rw[tG,Nat.mul_one] at aB;have bM:=ae aB;clear aB;refine⟨_,Jf,λK hK=>?_⟩;rw[if_pos (by rfl)];go_simp;refine hK _ _ (λ_=>z _) ?_
    try simp only
    show cN _ _ _ _ _ (.free 19 (gN n a 1)) _ _
    refine k8 (v:=?_) Jg (by rfl) (λV=>?_) ?_;rotate_left
    ·(go_simp<;>with_reducible rfl)
    try simp only[PU]
    refine ao a 1 bx ad ad _ _ _ _ _ _ _ _ _ _ E _ (C _) (bw.ak (J _)) ⟨λ_=>⟨_,rfl,?_,rfl⟩,λh=>ad,λh=>ad⟩;exact Sl.p9 bM.o (ct _) (by simp) λg _ ac au=>⟨ad,au,λh=>by have:=(bw.e g h).2;omega⟩
   ·
    have i0:i=20:=by simpa using an
    subst i0;obtain⟨A,al,hs,ar⟩:=aR.i ad;subst al ar;refine⟨_,Jh,λK hK=>?_⟩;rw[if_pos (by rfl)];go_simp;refine hK _ _ (λ_=>z _) ?_
    try simp only
    show cN _ _ _ _ _ (.free 21 (gN n a 2)) _ _
    refine k8 (v:=?_) Ji (by rfl) (λV=>?_) ?_;rotate_left
    ·(go_simp<;>with_reducible rfl)
    try simp only[PU]
    have t:=br (.cells #[.int .i64 mi,.int .i64 0,.slice A L L,.slice none 0 0] 75);obtain⟨A2,u,bN,_⟩:=t.i ad;injection u with u _ _;subst u;have T:=aq.new w 75 #[.int .i64 mi,.int .i64 0,.slice A L L,.slice none 0 0];refine ao a 2 bx ad ad _ _ _ _ _ _ _ _ _ _ E _ (C _) (bw.ak (J _)) ⟨λ_=>t.i ad,λ_=>⟨_,rfl,⟨rfl,λ_=>⟨w.heap.size,0,_,rfl,⟨U,by rw[bZ];omega,λh=>by have:=(bw.e _ h).2;omega⟩,D.bj.2 (gb.2 ⟨A,L,L,none,0,0,rfl,KD _,KD _,bN,Sl.bN _⟩),λj v bi=>?_⟩⟩,rfl⟩,λh=>ad⟩;rw[KV,T.cell];simpa using bi
   ·
    have i0:i=22:=by simpa using an
    subst i0;obtain⟨A,ax,hs,az⟩:=aR.f ad;subst ax az;refine⟨_,Jj,λK hK=>?_⟩;rw[if_pos (by rfl)];go_simp;refine hK _ _ (λ_=>z _) ?_
    try simp only
    have t:=br (.cells #[.slice A 1 1] 79);obtain⟨A2,B,bN,_⟩:=t.f ad;injection B with B _ _;subst B;have T:=aq.new w 79 #[.slice A 1 1];refine ao a 3 bx ad ad _ _ _ _ _ _ _ _ _ _ E _ (C _) (bw.ak (J _)) ⟨λ_=>t.i ad,λ_=>t.f ad,λ_=>⟨_,rfl,rfl,λ_=>⟨w.heap.size,0,_,rfl,⟨U,by rw[bZ];omega,λh=>by have:=(bw.e _ h).2;omega⟩,D.bj.2 (eS.2 ⟨A,1,1,rfl,KD _,bN⟩),λj v bi=>?_⟩⟩⟩;rw[KV,T.cell];simpa using bi
   .simp at an
namespace CF
theorem eQ(h:p:=by
 refine b3 ?_;generalize hX:World.setCell _ _ _=Z;obtain⟨bh,a9,bd⟩:=bA (w:=w) [.slice bU gn c1,.slice A2 (own u.af).length (own u.af).length,.slice cC 1 1,.int .i64 0] (by rfl) m.2.2.2.2.1 m.2.2.2.2.2 ad hX;have bf:=ah a9 bd;clear hX a9 bd bl aA aO;obtain⟨bl,aA,aO⟩:=bh.two;clear bh;go_wp2_with(fail);refine Lk (v:=.agg #[.slice bU gn c1,.slice A2 (own u.af).length (own u.af).length,.slice cC 1 1,.int .i64 0]) (by simp[results,Tryz.results7,go_sem,bl]) rfl ?_;have cQ:=bf.2.size;have ck:u.globals.length=gn:=by have:=(ag.2.2).at_.g.1;rw[KH] at this;exact this
 have aV:∀b,W.heap.size<=b->b<V.heap.size->Z.heap[b]?=V.heap[b]?:=λb ac au=>bf.2.block b au ad;have hm:∀b,W.heap.size<=b->b<V.heap.size->(False\/(w.heap.size<=b/\b<Z.heap.size)):=λb ac au=>.inr ⟨ad,ad⟩;have a5:=m.1.ak (ab:=Z) λb O=>aV b (m.2.1 b O).1 (m.2.1 b O).2;rw[xE];have cX:da u u.main [] []=⟨u.main,0,List.replicate L 0,[]⟩:=by unfold da;rw[cz.2.1];simp
 rw[cX];exact⟨⟨bU,gn,c1,A2,(own u.af).length,(own u.af).length,cC,1,1⟩,rfl,⟨⟨a5.sl (ct _) (by rw[KH];exact ck) λb O=>hm b (m.2.1 b O).1 (m.2.1 b O).2,(m.2.2.1.ak λb O=>aV b O.1 O.2.1).mono λb O=>hm b O.1 O.2.1,(m.2.2.2.1.ak λb O=>aV b O.1 O.2.1).mono λb O=>hm b O.1 O.2.1⟩,a5.cap,KD _,KD _⟩,bf.1⟩
 ):p:=h
theorem lJ(h:p:=by
 have ag:=aD aw cA (cc.on aw);have cZ:=aw.size;have dr:=cA.lt;have bv:=(aw.cell cz.2.2.1 λh=>h).trans cz.2.2.2;have bk:pb<W.heap.size:=KE cz.2.2.1 aw.size;obtain⟨a0,ai,af⟩:=aR.two;obtain⟨ws,m0⟩:∃ws,ws=W.heap.size:=⟨_,rfl⟩
 have cn:w.heap.size<ws:=ad;have dn:pb<ws:=ad;have aE:=ae m0;clear ba aw aR cA m0;refine qY (λk=>¬k<ws) [24] (.free 1 (.held 2 (.free 4 (.held 5 (.free 9 (.held 10 (.free 11 (.held 12 (.free 13 (.held 14 (.free 15 (.free 16 (.held 17 (gN 8 0 0)))))))))))))) ?_;refine tf ?_;refine mU ?_;refine tf ?_;refine mU ?_;refine tf ?_;refine mU ?_;refine tf ?_;refine mU ?_;refine tf ?_;refine mU ?_
 iterate 2 refine tf ?_
 refine mU ?_;have aa:Ext W W.drew:=(Fr.refl _ W).drew;refine Fg (W:=W) (gs:=u.globals) (gn:=gn) (gc:=gc) (mn:=mn) (mc:=mc) (L:=L) (ws:=ws) (GA:=GA) (MA:=MA) (mi:=u.main) (X:=u.af) (p0:=?J9) (a0:=?JR) (p3:=?Kh) (a3:=?JZ) (p6:=?Kv) (a6:=?Kp) (p7:=?Ki) (a7:=?J0) (p8:=?Kj) (a8:=?J1) (p18:=?Kc) (a18:=?JU) (p19:=?Kd) (a19:=?JV) (p20:=?Ke) (a20:=?JW) (p21:=?Kf) (a21:=?JX) (p22:=?Kg) (a22:=?JY) ?hG ry ?hM ?hX co ?m0 ?o0 ?o3 ?o6 ?o7 ?o8 ?Jf ?Jg ?Jh ?Ji ?Jj ?lU 8 0 0 ad ad ad undef undef undef undef undef undef undef undef undef undef [] W.drew aa ?sA ?sB
 case hG=>exact ag.2.2.at_.g
 case hM=>exact ag.2.2.at_.m.om
 case hX=>exact cz.1.ok.yp
 case m0=>have:=aE.o;omega
 case o0=>rfl
 case o3=>rfl
 case o6=>rfl
 case o7=>rfl
 case o8=>rfl
 case Jf=>rfl
 case Jg=>rfl
 case Jh=>rfl
 case Ji=>rfl
 case Jj=>rfl
 case sA=>exact⟨.inl ⟨rfl,rfl,.inl ⟨rfl,rfl,rfl,rfl⟩⟩,λh=>ad,λh=>ad,λk ap=>by simp at ap⟩
 case sB=>exact⟨λh=>ad,λh=>ad,λh=>ad⟩
 case lU=>
  intro aj v6 a4 v10 v11 q s y G H E V bm bw aR;obtain⟨bU,c1,F,rfl,cD,U⟩:∃A c F,v6=.slice A gn c/\Own V 3 1 A gn c (u.globals.map dc) F/\∀k∈F,W.heap.size<=k/\k<V.heap.size:=by
   rcases bw.g with⟨h,_⟩|⟨h,_⟩|⟨_,_,F,h,hF⟩
   .omega
   .omega
   .rcases h with⟨h,_⟩|⟨h,_⟩|⟨_,A,c,ac,au⟩
    .omega
    .omega
    .exact⟨A,c,F,ac,au,hF⟩
  obtain⟨A2,rfl,aM⟩:=bw.t ad;obtain⟨cC,rfl,aL⟩:=aR.h ad;have z:=ag.2.1.ai bm;have T:=ag.1.trans bm;have dk:=bm.size;have m:=cS cD U aM aL z T;obtain⟨bl,aA,aO⟩:=z.two;clear cD U aM aL z T bw aR bm a0 ai af bv;refine tf ?_;exact fj
 ):p:=h
end CF
open CF in
theorem Js(u:ay)(w:World)(p:UV)(hU:tq u)(hu:p.Ok w u) :
  Calls prog 7 #[.agg (p.val u)] w (FN (λ_=>False) w (dJ u)):=by
 obtain⟨GA,gn,gc,MA,mn,mc,PA,pn,pc⟩:=p;obtain⟨dQ,bB,a1,an,ce⟩:=hU.ok.main;have cY:=hU.ok.procs dQ (KG a1);have b0:=cY.ints;have ry:gn<=100000:=by have ac:=hu.at_.g.1;have au:=hU.ok.nY;rw[KH] at ac;have aU:u.globals.length=gn:=ac;omega
 have bk:=hu.at_.p.1;rw[KH] at bk;simp only at bk;have cb:=(List.getElem?_eq_some_iff.1 a1).1;obtain⟨pb,eX,cW,bx,b2,bK,e,dN,cP,cr,cy,cd,bv,cJ,_,_⟩:=hu.at_.proc (k:=u.main.toNat) (by show u.main.toNat<pn;omega);simp only at e;subst e;rw[a1] at cP;injection cP with cP;subst cP;obtain⟨L,aI⟩:=KI (a:=dQ.locals) ad;rw[aI] at bv;have co:L<=100000:=ad;have cN:u.main<(pn:Int):=ad;have bE:eV u u.main=L:=by unfold eV;rw[a1];simp[aI]
 have cz:=bL hU bE dN bv;have cc:=ae hu;clear hU a1 an ce cY b0 hu bk cb cr cy cd bv cJ aI bE;dsimp only[UV.val];go_enter func7,ntmps7;exact lI
structure RO(P:Nat->Prop)(B:Nat)(w:World)(s:aj)(k:Nat)(fs:List al)(f:al)(N:Nat)(q:SV)(O lb lc:Nat)(hx cN:List Value)(IA:Lp)(ic:Nat)(S:Lp)(aG:Nat)(F1 F2 a4:List Nat):Prop where
 th:s.threads[k]?=some (fs++[f])
 gl:q.gn=s.globals.length
 tl:q.tn=s.table.length
 hl:q.hn=s.threads.length
 g:Own w 3 1 q.GA q.gn q.gc (s.globals.map dc) F1
 t:Own w 107 2 q.TA q.tn q.tc (s.table.flatMap bH) F2
 h:Own w 79 1 q.HA q.hn q.hc hx [O]
 mB:q.HA=some ⟨O,0,none⟩
 qL:∀j cM,j≠k->s.threads[j]?=some cM->∃u,hx[j]?=some u/\(jP cM).rep w P [u]
 yN:hx[k]?=some (.slice (some ⟨lb,0,none⟩) (fs.length+1) lc)
 l:Own w 75 4 (some ⟨lb,0,none⟩) (fs.length+1) lc (cN++[.int .i64 f.proc,.int .i64 f.pc,.slice IA f.ints.length ic,.slice S f.au.length aG]) [lb]
 fr:D.aQ w P (fs.map er) cN
 lk:Sl w P S f.au.length (f.au.map D.i)
 GF:f.au.length<=aG
 i:Own w 3 1 IA f.ints.length ic (f.ints.map dc) a4
 o:aq w N 40 (q.val s)
 nd:(N::O::lb::(F1++(F2++a4))).Nodup
 lo:∀b∈N::O::lb::(F1++(F2++a4)),B<=b/\b<w.heap.size
 pb:∀b,P b->b<B
def H0(P:Nat->Prop)(w:World)(s:aj)(k:Nat)(fs:List al)(f:al)(e:Ending)(ab:World):Prop:=∃q O lb lc hx cN IA ic S aG F1 F2 a4,e=.returned (.agg (q.val s))/\Ext w ab/\
 ∀V N,Ext ab V->aq V N 40 (q.val s)->ab.heap.size<=N->RO P w.heap.size V s k fs f N q O lb lc hx cN IA ic S aG F1 F2 a4
namespace CG
theorem eQ(h:p:=by
 refine b3 ?_;generalize hX:World.setCell _ _ _=X;obtain⟨cb,b8⟩:=ke 0 [.slice bU gn c1,.slice A2 tn c2,.slice cC hn c3,.int .i64 s.fault] an hX;have bz:aq X N 40 #[.slice bU gn c1,.slice A2 tn c2,.slice cC hn c3,.int .i64 s.fault]:=cb;have be:∀k∈F1++(F2++bK),k≠N:=by
  have:=eF (A:=F1++(F2++bK)) (B:=[]) (x:=N) (by simpa using bu);simpa using this
 have bQ:∀k,k∈F1++(F2++bK)->k∈F1++(F2++(bK++[N])):=λk ap=>by
  simp only[KM] at ap ⊢;rcases ap with ap|ap|ap
  .exact .inl ap
  .exact .inr (.inl ap)
  .exact .inr (.inr (.inl ap))
 have ax:∀k∈F1++(F2++bK),X.heap[k]?=V.heap[k]?:=λk ap=>b8.block k (br k (bQ k ap)).2 (be k ap);have bp:Ext W X:=Fr.low (M:=λb=>b=N) (Fr.trans (Fr.mono bm λ_ h=>h.elim) b8) λb O=>by rw[O];exact ck.1
 have aQ:=hP (cD.ak λk ap=>ax k (by simp[ap])) (aM.ak λk ap=>ax k (by simp[ap])) (aL.ak λk ap=>ax k (by simp[ap])) bz bu (λk ap=>(⟨(br k ap).1,by have:=(br k ap).2;have:=b8.size;omega⟩:W.heap.size<=k/\k<X.heap.size)) bp;obtain⟨a0,ai,af⟩:=(ag.2.1.ai bp).two;have aJ:Ext w X:=ag.1.trans bp;have n:∀b,P b->X.heap[b]?=w.heap[b]?:=λb O=>aJ.block b (bo.2.1 b O) λh=>h;obtain⟨du,d5,c7,FA,m,fc,cq,T,r,df,cj,bX⟩:=bo.1.at_.h.lz (k:=t.toNat) (by show t.toNat<hn;omega);simp only at cq;subst cq;have dv:c7=fs++[f]:=by have:=bo.2.2.2.1;rw[r] at this;injection this
 subst dv;obtain rfl:m=fs.length+1:=by have:=bX.1;simpa using this.symm
 have dF:=(aJ.cell (j:=d5+t.toNat) (bo.2.1 _ T) λh=>h).trans df;have dp:=bX.ak n;have cE:du<X.heap.size:=by have:=bo.2.1 _ T;have:=aJ.size;omega
 have cG:∀d∈(fs++[f]).map er,d.sz=4:=λd hd=>by obtain⟨x,_,rfl⟩:=Lc.1 hd;rfl
 obtain⟨dR,cc,ay⟩:=Sl.src (z:=4) dp cG;rw[KK] at cc;obtain⟨bc,cO,rfl,bw,bt⟩:=D.j2 cc;obtain⟨IA,ii,ic,S,dK,aG,rfl,aN,a2,di,cf⟩:=gb.1 (D.bj.1 bt);have dn:bc.length=fs.length*4:=by rw[D.hb _ _ bw,D.gT (z:=4) (λd hd=>by obtain⟨x,_,rfl⟩:=Lc.1 hd;rfl),KH]
 obtain rfl:ii=f.ints.length:=by have:=di.1;simpa using this.symm
 obtain rfl:dK=f.au.length:=by have:=cf.1;simpa using this.symm
 have dA:=b4.2.2.2;have bF:FA=none->fs.length+1=0:=λh=>by subst h;exact dp.none_
 have hIn:IA=none->f.ints.length=0:=λh=>by subst h;exact di.none_
 have cK:cx (EF cT) 1 X X.heap.size IA f.ints.length f.ints:=(di.mono (c6:=av X) λb O=>by have:=bo.2.1 b O;have:=aJ.size;show b<X.heap.size;omega).ints;have bB:=cS bw cf a2 cK aJ dn;have bC:=aD ay bF hIn;obtain⟨co,cX,aY,dz,cr,cv,cB⟩:=aQ.2.2.1.block ad;subst cX;have cV:=bL aY cr cv cB;clear e0 a6 aP hX cb b8 bz be bQ ax cD aM aL an bu br bm r T df bX n cG cc bt bw cf di aN a2 cK ay bF hIn aJ bp aY cr cv cB dp cj;go_upto_region 3 with(at_builtin;refine fU _ xk (by rfl) (.tmp 22) (.tmp 28) (by rfl) (by rfl) _ _ _ _ (by rfl) bC.1 ad ad bC.2.1 ?_;intro dC ch aS bb bS;have H1:=ah bb bS;clear bb bS);have cp:=H1.2.size;obtain⟨lb,dh,dg,bZ,cH,dj,cI⟩:=ia H1.1 ad;subst dh;have d2:aS.cell? ⟨lb,fs.length*4+2,none⟩=some (.slice IA f.ints.length ic):=cH _ _ (by rw[<-bB.2.2.2.2.2,List.getElem?_append_right ad,Nat.add_sub_cancel_left];rfl);have b5:Src aS 1 IA f.ints.length (f.ints.map dc):=by
  have:=Src.lv (bB.2.2.2.1.c8 H1.2 H1.2.size) (jA _) (mH _) ad
  rwa [tG] at this
 have b9:=aD b5 dg cI;have cJ:=dj;clear b5 cI cH;go_upto_region 4 with(at_builtin;refine fU _ de (by rfl) (.tmp 34) (.tmp 41) (by rfl) (by rfl) _ _ _ _ (by rfl) b9.1 ad ad bC.2.2 ?_;intro cy c4 aT az bg;have bJ:=ah az bg;obtain⟨f0,dH,dL⟩:aT.cell? ⟨lb,fs.length*4+2,none⟩=some (.slice IA f.ints.length ic)/\(∀j,aT.frozen? ⟨lb,j,none⟩=false)/\lb<aT.heap.size:=⟨((Fr.of (M:=λ_=>False) bg).cell bZ λh=>h).trans d2,λj=>((Fr.of (M:=λ_=>False) bg).frozen bZ λh=>h).trans (cJ j),KE bZ bg.size⟩;clear az bg);generalize ct:World.setCell _ _ _=Y;obtain⟨dw,b1,-,-,-,-,b2⟩:=ia (b0 H1.1 bJ.2) ad;obtain rfl:lb=dw:=by simpa using b1
 have c9:Y.ownsRow X.heap.size 75 4 (.slice (some ⟨lb,0,none⟩) (fs.length+1) ch) (fs.length+1) ((bc++[Value.int .i64 f.proc,.int .i64 f.pc,.slice IA f.ints.length ic,.slice S f.au.length aG]).set (fs.length*4+2) (.slice cy f.ints.length c4)):=by
  rw[<-ct];exact b2 _ _ ad
 have ar:Fr (λb=>b=lb) aT Y:=ct▸(Fr.refl (λb=>b=lb) _).setCell (.inl rfl) _;have bn:Ext X Y:=Fr.low (M:=λb=>b=lb) (Fr.trans (Fr.trans (Fr.of H1.2) (Fr.of (Below.mono bJ.2 (KD _)))) ar) λb O=>by rw[O];exact b9.2.1
 have bT:∀b∈bq cy f.ints.length c4,aS.heap.size<=b/\b<aT.heap.size:=λb O=>bJ.1.lt b (by simpa using O);have c5:Own Y 3 1 cy f.ints.length c4 (f.ints.map dc) (bq cy f.ints.length c4):=Own.ak (w:=aT) ⟨g9 bJ.1 (KZ _),rfl⟩ λb O=>ar.block b (bT b O).2 (aC (bT b O));have ce:∀b∈bq cy f.ints.length c4,aS.heap.size<=b/\b<Y.heap.size:=λb O=>⟨(bT b O).1,KE (bT b O).2 ar.size⟩
 have cQ:=aQ.2.2.1.ai bn;have bd:=aQ.2.2.2.1.ai bn;obtain⟨e0,a6,aP⟩:=bd.two;have cm:hx.length=hn:=by
  rw[D.hb _ _ bo.2.2.2.2.1,D.gT (z:=1) (λd hd=>by obtain⟨x,_,rfl⟩:=Lc.1 hd;rfl),KH,Nat.mul_one];exact b4.2.2.1
 obtain⟨aR,am,-,ds,bV,dm,bW⟩:=cQ.block ad;obtain rfl:co=aR:=by simpa using am
 obtain⟨dM,dl⟩:∃u,hx[t.toNat]?=some u:=⟨_,List.getElem?_eq_getElem ad⟩
 have cP:=bV t.toNat dM dl;have dJ:lb<Y.heap.size:=KE dL ar.size;have dE:=bn.size;have dI:=b9.2.1;have aK:=o5 c9 bn c5 ce cQ bd cm bW;clear dl ct b1 b2 c9 ar bn bT c5 ce cQ bd am bV bW f0 dH d2 cJ cm;go_upto_region 5 with(fail);generalize bI:World.setCell _ _ _=Z;have bu:=aQ.2.2.2.2.1;have ab:=aQ.2.2.2.2.2.1;rw[cV.1] at bu ab;have be:∀b∈F1++F2++[N],b≠co:=eF (A:=F1++F2) (B:=[N]) (x:=co) (by simpa using bu);have c0:Own Z 79 1 (some ⟨co,0,none⟩) hn c3 (hx.set t.toNat (.slice (some ⟨lb,0,none⟩) (fs.length+1) ch)) bK:=bI▸aK.2.2.2.2.2.2.2 t.toNat _ ad;have aW:Fr (λb=>b=co) Y Z:=bI▸(Fr.refl (λb=>b=co) _).setCell (.inl rfl) _;have cU:∀b,b<X.heap.size->b≠co->Z.heap[b]?=X.heap[b]?:=λb O hn=>(aW.block b (KE O aK.2.1.size) hn).trans (aK.2.1.block b O λh=>h);have dN:=aQ.1.ak λb O=>cU b (ab b (by simp[O])).2 (be b (by simp[O]));have dd:=aQ.2.1.ak λb O=>cU b (ab b (by simp[O])).2 (be b (by simp[O]));have L:(bc++[Value.int .i64 f.proc,.int .i64 f.pc,.slice IA f.ints.length ic,.slice S f.au.length aG]).set (fs.length*4+2) (.slice cy f.ints.length c4)=bc++[Value.int .i64 f.proc,.int .i64 f.pc,.slice cy f.ints.length c4,.slice S f.au.length aG]:=by
  have:=bB.2.2.2.2.2;rw[List.set_append_right _ _ ad,this,Nat.add_sub_cancel_left];rfl
 have da:Own Z 75 4 (some ⟨lb,0,none⟩) (fs.length+1) ch (bc++[Value.int .i64 f.proc,.int .i64 f.pc,.slice cy f.ints.length c4,.slice S f.au.length aG]) [lb]:=by
  rw[<-L];exact Own.ak (w:=Y) ⟨g9 aK.1 (KZ _),rfl⟩ λb O=>aW.block b (aC (Lf.1 O)) (aC (Lf.1 O))
 have ce:=aK.2.2.2.1;have c8:=aK.2.2.1.ak λb O=>aW.block b (ce b O).2 (aC (ce b O));have bh:=aK.2.2.2.2.2.1.on aW (be N (by simp));have bN:Ext W Z:=Fr.low (M:=λb=>b=co) (Fr.trans (Fr.mono (aQ.2.2.2.2.2.2.trans aK.2.1) λ_ h=>h.elim) aW) λb O=>by rw[O];exact(ab co (by simp)).1
 have bk:=ag.2.2.1.ai bN;have a9:Ext w Z:=ag.1.trans bN;have y:∀b∈co::lb::(F1++(F2++bq cy f.ints.length c4)),W.heap.size<=b/\b<Z.heap.size:=by
  have ac:=aQ.2.2.2.2.2.2.size;have au:=aW.size;intro b O;rcases KT.1 O with O|O
  .have:=ab co (by simp);omega
  rcases KT.1 O with O|O
  .omega
  rcases KM.1 O with O|O
  .have:=ab b (by simp[O]);omega
  rcases KM.1 O with O|O
  .have:=ab b (by simp[O]);omega
  .have:=ce b O;omega
 have aX:(co::lb::(F1++(F2++bq cy f.ints.length c4))).Nodup:=by
  have dy:(F1++F2).Nodup:=by have:=bu;rw[<-List.append_assoc] at this;exact(List.nodup_append.1 this).1
  have cL:(F1++F2++bq cy f.ints.length c4).Nodup:=List.nodup_append.2 ⟨dy,eW _ _ _,λa bx b O h=>by
   have aU:=ce b O;have bE:a<X.heap.size:=(ab a (by rcases KM.1 bx with h|h<;>simp[h])).2;omega⟩
  rw[KR] at cL;refine List.nodup_cons.2 ⟨λh=>?_,List.nodup_cons.2 ⟨λh=>?_,cL⟩⟩
  .rcases KT.1 h with O|O
   .omega
   rcases KM.1 O with O|O
   .exact be co (by simp[O]) rfl
   rcases KM.1 O with O|O
   .exact be co (by simp[O]) rfl
   .have:=ce co O;omega
  .rcases KM.1 h with O|O
   .have:=ab lb (by simp[O]);omega
   rcases KM.1 O with O|O
   .have:=ab lb (by simp[O]);omega
   .have:=ce lb O;omega
 have cm:=aK.2.2.2.2.2.2.1;obtain⟨e0,a6,aP⟩:=bh.two;obtain⟨bl,aA,aO⟩:=bk.two;have bf:=zA dN dd c0 da c8 bk a9 y aX cm;clear bI bu ab be c0 aW cU dN dd L da ce c8 bh bN bk a9 y aX cm cP dm;go_wp2_with(fail);generalize hU:World.setCell _ _ _=U;obtain⟨cY,cl,bO⟩:=bA (w:=w) [.slice bU gn c1,.slice A2 tn c2,.slice (some ⟨co,0,none⟩) hn c3,.int .i64 s.fault] (by rfl) bf.2.2.2.2.2.1 bf.2.2.2.2.2.2.1 ad hU;have cz:=ah cl bO;clear hU cl bO e0 a6 aP bl aA aO;obtain⟨bl,aA,aO⟩:=cY.two;refine Lk (v:=.agg #[.slice bU gn c1,.slice A2 tn c2,.slice (some ⟨co,0,none⟩) hn c3,.int .i64 s.fault]) (by simp[results,Tryz.results34,go_sem,bl]) rfl ?_;obtain⟨hG,hT,hH,bR,hI,-,-,y,aX,cm⟩:=bf.o;refine⟨⟨bU,gn,c1,A2,tn,c2,some ⟨co,0,none⟩,hn,c3⟩,co,lb,ch,hx.set t.toNat (.slice (some ⟨lb,0,none⟩) (fs.length+1) ch),bc,cy,c4,S,aG,F1,F2,bq cy f.ints.length c4,rfl,cz.1,λV dD bm b7 dG=>?_⟩;have bO:=cz.2;have cW:=bO.size;have dk:=bm.size;have dq:∀b,W.heap.size<=b->b<Z.heap.size->V.heap[b]?=Z.heap[b]?:=λb ac au=>(bm.block b ad λh=>h).trans (bO.block b au ad);have cR:∀b,P b->V.heap[b]?=w.heap[b]?:=λb O=>(cz.1.trans bm).block b (bo.2.1 b O) λh=>h;have cw:∀b,P b->V.heap[b]?=X.heap[b]?:=λb O=>(cR b O).trans (bB.2.2.2.2.1.block b (bo.2.1 b O) λh=>h).symm;have aV:∀b∈co::lb::(F1++(F2++bq cy f.ints.length c4)),V.heap[b]?=Z.heap[b]?:=λb O=>dq b (y b O).1 (y b O).2;have aY:=cV.1;have dt:t.toNat<hx.length:=ad
 refine {th:=bo.2.2.2.1,gl:=b4.1.symm,tl:=b4.2.1.symm,hl:=b4.2.2.1.symm,g:=hG.ak λb O=>aV b (by simp[O]),t:=hT.ak λb O=>aV b (by simp[O]),h:=?_,mB:=rfl,qL:=λj cM bi b6=>?_,yN:=by simp[dt],l:=bR.ak λb O=>aV b (by simp[Lf.1 O]),fr:=D.bU cw _ _ bB.1,lk:=bB.2.1.ak cw,GF:=bB.2.2.1,i:=hI.ak λb O=>aV b (by simp[O]),o:=b7,nd:=?_,lo:=λb O=>?_,pb:=bo.2.1}
 .rw[<-aY];exact hH.ak λb O=>aV b (by rw[aY] at O;simp[Lf.1 O])
 .obtain⟨cs,a5,dB,ci⟩:=D.oP (z:=1) bo.2.2.2.2.1 (λd hd=>by obtain⟨x,_,rfl⟩:=Lc.1 hd;rfl) (k:=j) (d:=jP cM) (by rw[List.getElem?_map,b6];rfl);obtain⟨u,rfl⟩:=List.length_eq_one_iff.1 dB;have h0:=ci 0 u rfl;simp only[Nat.mul_one,KN] at h0;exact⟨u,by rw[List.getElem?_set_ne (λh=>bi h.symm)];exact h0,D.aS cR _ _ a5⟩
 .exact List.nodup_cons.2 ⟨λh=>by have:=y dD h;omega,aX⟩
 .rcases KT.1 O with O|O
  .subst O;exact⟨ad,b7.lt⟩
  .have:=y b O;omega
 ):p:=h
end CG
open CG in
theorem Fq(P:Nat->Prop)(s:aj)(t:Int)(fs:List al)(f:al)(q:SV)(w:World)(h:q.Is w P s)(aZ:∀b,P b->b<w.heap.size)(a1:Small s)(db:0<=t)(bv:s.threads[t.toNat]?=some (fs++[f])) :
  Calls prog 34 #[.agg (q.val s),.int .i64 t] w (H0 P w s t.toNat fs f):=by
 obtain⟨GA,gn,gc,TA,tn,tc,HA,hn,hc⟩:=q;have bY:=h.ok aZ;have ck:s.globals.length=gn:=by have ac:=h.at_.g.1;rw[KH] at ac;exact ac
 have cu:s.table.length=tn:=by have ac:=h.at_.t.1;rw[KH] at ac;exact ac
 have bG:s.threads.length=hn:=by have ac:=h.at_.h.1;rw[KH] at ac;exact ac
 have ry:gn<=100000:=by have:=a1.g;omega
 have ti:tn<=100000:=by have:=a1.t;omega
 have qK:hn<=100000:=by have:=a1.h;omega
 have dx:t<(hn:Int):=by have:=(List.getElem?_eq_some_iff.1 bv).1;omega
 have cd:=(a1.f _ (KG bv)).1;rw[KF] at cd;simp only[KQ,KW] at cd;have cg:=(a1.f _ (KG bv)).2 f (by simp);obtain⟨hx,aB,ca⟩:=Sl.src (z:=1) h.at_.h (λd hd=>by obtain⟨x,_,rfl⟩:=Lc.1 hd;rfl);have bo:=cS h aZ bY bv aB ca;have b4:=bL ck cu bG cg;clear h aZ bY bv aB ca ck cu bG a1 cg;dsimp only[SV.val];go_enter func34,ntmps34;go_upto_region 1 with(fail);generalize ba:World.alloc _ _=W;have aw:=iN ba;have bs:=gC ba;have cA:=ga ba;have ag:=bL aw bs cA (bo.2.2.1.on aw);have cZ:=aw.size;have dr:=cA.lt;obtain⟨a0,ai,af⟩:=bs.two;obtain⟨ws,m0⟩:∃ws,ws=W.heap.size:=⟨_,rfl⟩
 have cn:w.heap.size<ws:=ad;have aE:=ae m0;clear ba aw bs cA m0;refine qY (λb=>¬b<ws) [16] (.free 1 (.held 2 (.free 5 (.held 6 (.free 9 (.held 10 (.free 12 (.held 13 (jg 8 0 0 0 false))))))))) ?_;refine tf ?_;refine mU ?_;refine tf ?_;refine mU ?_;refine tf ?_;refine mU ?_;refine tf ?_;refine mU ?_;refine ES (W:=W) (s:=s) (gn:=gn) (tn:=tn) (hn:=hn) (gc:=gc) (tc:=tc) (hc:=hc) (GA:=GA) (TA:=TA) (HA:=HA) (hx:=hx) (ws:=ws) (p0:=?J9) (a0:=?JR) (p3:=?Kh) (a3:=?JZ) (p4:=?Ku) (a4:=?Ko) (p7:=?Ki) (a7:=?J0) (p8:=?Kj) (a8:=?J1) (p11:=?Ka) (a11:=?JS) (p15:=?Kb) (a15:=?JT) (t15:=?Kk) (aa:=(λbj bD v10 v11 aF aI aH=>⟨#[.agg #[.slice GA gn gc,.slice TA tn tc,.slice HA hn hc,.int .i64 s.fault],.int .i64 t,.pointer (some ⟨w.heap.size,0,none⟩),undef,.pointer (some ⟨w.heap.size+1,0,none⟩),bj,undef,bD,.pointer (some ⟨w.heap.size,0,none⟩),.slice GA gn gc,v10,v11,.pointer (some ⟨w.heap.size,1,none⟩),.slice TA tn tc,aF,aI,.pointer (some ⟨w.heap.size,2,none⟩),.slice HA hn hc,aH,.pointer (some ⟨w.heap.size,3,none⟩),.int .i64 s.fault,undef,undef,undef,undef,undef,undef,undef,undef,undef,undef,undef,undef,undef,undef,undef,undef,undef,undef,undef,undef,undef,undef,undef,undef,undef,undef,undef,undef,undef,undef,undef],[]⟩)) ?hG ?hT ?hH ?Ja ?ry ?ti ?qK ?m0 ?o0 ?o3 ?o4 ?o7 ?o8 ?Jd ?Je ?q5 ?q7 ?EB ?IC ?Jo ?Jp ?Jq ?e7 ?e9 ?I2 ?I3 ?I4 ?I5 ?lU 8 0 0 0 false ?n1 ?n2 ?n3 ?n4 ?n5 ?n6 undef undef undef undef undef undef undef [] [] [] [] W.drew ?start
 case hG=>exact ag.2.2.2.at_.g
 case hT=>exact ag.2.2.2.at_.t
 case hH=>exact bo.2.2.2.2.2.on (Fr.ext ag.1)
 case Ja=>exact λh=>by subst h;exact ag.2.2.2.at_.h.none_
 case ry=>exact ry
 case ti=>exact ti
 case qK=>exact qK
 case m0=>have:=aE.o;omega
 case o0=>rfl
 case o3=>rfl
 case o4=>rfl
 case o7=>rfl
 case o8=>rfl
 case Jd=>rfl
 case Je=>rfl
 case q5=>intro _ _ _ _ _ _ _ _;rfl
 case q7=>intro _ _ _ _ _ _ _ _;rfl
 case EB=>intro _ _ _ _ _ _ _ _;rfl
 case IC=>intro _ _ _ _ _ _ _ _;rfl
 case Jo=>intro _ _ _ _ _ _ _ _;rfl
 case Jp=>intro _ _ _ _ _ _ _ _;rfl
 case Jq=>intro _ _ _ _ _ _ _ _;rfl
 case e7=>intro _ _ _ _ _ _ _;rfl
 case e9=>intro _ _ _ _ _ _ _;rfl
 case I2=>intro _ _ _ _ _ _ _;rfl
 case I3=>intro _ _ _ _ _ _ _;rfl
 case I4=>intro _ _ _ _ _ _ _;rfl
 case I5=>intro _ _ _ _ _ _ _;rfl
 case n1=>omega
 case n2=>omega
 case n3=>omega
 case n4=>omega
 case n5=>omega
 case n6=>simp
 case start=>exact⟨Ll.drew,.inl ⟨rfl,rfl,rfl,rfl⟩,.inl ⟨rfl,rfl,rfl,rfl⟩,.inl ⟨rfl,rfl,rfl,rfl⟩,.inl ⟨rfl,rfl,rfl⟩,by simp,λk ap=>by simp at ap⟩
 case lU=>
  intro b bj bD v10 v11 aF aI aH F1 F2 bK bP V hC;obtain⟨bU,c1,rfl,cD⟩:∃A c,v10=.slice A gn c/\Own V 3 1 A gn c (s.globals.map dc) F1:=by
   rcases hC.g with⟨h,_⟩|⟨h,_⟩|⟨_,h⟩
   .cases h
   .cases h
   .exact h
  obtain⟨A2,c2,rfl,aM⟩:∃A c,aF=.slice A tn c/\Own V 107 2 A tn c (s.table.flatMap bH) F2:=by
   rcases hC.t with⟨h,_⟩|⟨h,_⟩|⟨_,h⟩
   .cases h
   .cases h
   .exact h
  obtain⟨cC,c3,rfl,aL⟩:∃A c,aH=.slice A hn c/\Own V 79 1 A hn c hx bK:=by
   rcases hC.h with⟨h,_⟩|⟨h,_⟩|⟨_,h⟩
   .cases h
   .cases h
   .exact h
  refine tf ?_;refine wN (P:=?P1) (ops:=?Kt) (Q:=?Kx) (R:=?Kz) (tails:=?KC) (rest:=.pick [16] (λ_=>.stop)) (aa:=?Kq) (C:=λ(N:Nat) V=>Ext W V/\Own V 3 1 bU gn c1 (s.globals.map dc) F1/\Own V 107 2 A2 tn c2 (s.table.flatMap bH) F2/\Own V 79 1 cC hn c3 hx bK/\aq V N 40 #[.slice none 0 0,.slice none 0 0,.slice none 0 0,.int .i64 0]/\(F1++(F2++(bK++[N]))).Nodup/\∀k∈F1++(F2++(bK++[N])),W.heap.size<=k/\k<V.heap.size) (λkey=>?main) ?key
  case main=>
   rcases hC.o with⟨rfl,rfl,bE⟩|⟨rfl,N,rfl,bE,cF⟩
   .subst bE;show cN _ _ _ _ _ (.pick [15] λ_=>.pick [16] λ_=>.stop) _ _
    refine ao ?_;refine dP ?_;have ak:∀k∈F1++(F2++(bK++[])),k<V.heap.size:=λk ap=>(hC.lo k ap).2;have hD:Ext W (V.alloc (.cells #[.slice none 0 0,.slice none 0 0,.slice none 0 0,.int .i64 0] 40))/\Own (V.alloc (.cells #[.slice none 0 0,.slice none 0 0,.slice none 0 0,.int .i64 0] 40)) 3 1 bU gn c1 (s.globals.map dc) F1/\Own (V.alloc (.cells #[.slice none 0 0,.slice none 0 0,.slice none 0 0,.int .i64 0] 40)) 107 2 A2 tn c2 (s.table.flatMap bH) F2/\Own (V.alloc (.cells #[.slice none 0 0,.slice none 0 0,.slice none 0 0,.int .i64 0] 40)) 79 1 cC hn c3 hx bK/\aq (V.alloc (.cells #[.slice none 0 0,.slice none 0 0,.slice none 0 0,.int .i64 0] 40)) V.heap.size 40 #[.slice none 0 0,.slice none 0 0,.slice none 0 0,.int .i64 0]/\(F1++(F2++(bK++[V.heap.size]))).Nodup/\∀k∈F1++(F2++(bK++[V.heap.size])),W.heap.size<=k/\k<(V.alloc (.cells #[.slice none 0 0,.slice none 0 0,.slice none 0 0,.int .i64 0] 40)).heap.size:=by
     refine⟨hC.ext.alloc _,cD.ai (Ll.alloc _),aM.ai (Ll.alloc _),aL.ai (Ll.alloc _),Lm,?_,λk ap=>?_⟩
     .have:=pY (F1:=F1++(F2++bK)) (F2:=[]) (by simpa using hC.nd) (by simpa using ak);simpa using this
     .rw[World.kH];have dk:=hC.ext.size;rcases g5.dh.1 ap with ap|ap|ap|ap
      .have:=hC.lo k (g5.dh.2 (.inl ap));omega
      .have:=hC.lo k (g5.dh.2 (.inr (.inl ap)));omega
      .have:=hC.lo k (g5.dh.2 (.inr (.inr (.inl ap))));omega
      .have:=Lf.1 ap;omega
    generalize V.alloc (.cells #[.slice none 0 0,.slice none 0 0,.slice none 0 0,.int .i64 0] 40)=dQ at hD ⊢;generalize V.heap.size=N at hD ⊢;exact key N dQ hD
   .subst bE;show cN _ _ _ _ _ (.pick [16] λ_=>.stop) _ _
    exact key N V ⟨hC.ext,cD,aM,aL,cF,hC.nd,hC.lo⟩
  clear hC cD aM aL V b;intro N V ⟨bm,cD,aM,aL,an,bu,br⟩;obtain⟨e0,a6,aP⟩:=an.two;have ck:=br N (by simp);clear a0 ai af;exact fj
end Go.Proofs.YtglbpimocmhojaaGreat

/- Part 24 of the proof. No condition of its own. -/
import Derived.Test.YtnhhdaggkiomoaaGreatQ23
namespace Go.Proofs.YtnhhdaggkiomoaaGreat
open Go.RowKit Go.Proofs.Tryz
set_option maxRecDepth 1000000
set_option maxHeartbeats 25600000
set_option linter.unusedVariables false
variable{p:Prop}
def xM(a b:Nat):List Nat:=(bif a == 0 then [0] else bif a == 1 then [3] else bif a == 2 then [6] else bif a == 3 then [8] else [])++(bif b == 0 then [18] else bif b == 1 then [20] else bif b == 2 then [22] else [])
def gM:Nat→Nat→Nat→PT
 | 0,_,_=>.stop
 | n+1,a,b=>bif a == 4 && b == 3 then .free 23 (.pick [24] fun _=>.stop) else .pick (xM a b) fun i=>
   bif i == 0 then gM n 1 b else bif i == 3 then gM n 2 b else bif i == 6 then .free 7 (gM n 3 b) else bif i == 8 then gM n 4 b else bif i == 18 then .free 19 (gM n a 1) else bif i == 20 then .free 21 (gM n a 2) else gM n a 3
abbrev wm(W w:World)(E:List Nat):Nat→Prop:=fun k=>W.heap.size≤k∧k<w.heap.size∧k∉E
structure H4(W:World)(gs:List Int)(gn m:Nat)(w:World)(a:Nat)(aj v6 bu v10 v11:Value)(E:List Nat):Prop where
 g:(a=0∧E=[]∧iu 3 1 gn (gs.map dc) w 0 aj v6 [])∨(a=1∧iu 3 1 gn (gs.map dc) w 1 aj v6 E)∨(2≤a∧E=[]∧∃F,iu 3 1 gn (gs.map dc) w 2 aj v6 F∧∀k∈F,W.heap.size≤k∧k<w.heap.size)
 o:3≤a→v10=.int .i64 (m:Int)
 t:4≤a→∃A,v11=.slice A m m∧Sl w (wm W w []) A m ((List.replicate m ⟨0,0⟩).map lj)
 e:∀k∈E,W.heap.size≤k∧k<w.heap.size
structure HR(W:World)(mi:Int)(L:Nat)(w:World)(b:Nat)(q s y G H:Value)(E:List Nat):Prop where
 i:1≤b→∃A,q=.slice A L L∧Sl w (wm W w E) A L ((List.replicate L 0).map D.i)∧s=.agg #[.int .i64 mi,.int .i64 0,.slice A L L,.slice none 0 0]
 f:2≤b→∃A,y=.slice A 1 1∧Sl w (wm W w E) A 1 ([(⟨mi,0,List.replicate L 0,[]⟩:al)].map er)∧G=.agg #[.slice A 1 1]
 h:3≤b→∃A,H=.slice A 1 1∧Sl w (wm W w E) A 1 ([[(⟨mi,0,List.replicate L 0,[]⟩:al)]].map jP)
theorem H4.ak{W:World}{gs:List Int}{gn m a:Nat}{w ab:World}{aj v6 bu v10 v11:Value}{E:List Nat}(h:H4 W gs gn m w a aj v6 bu v10 v11 E)(aw:Ext w ab):H4 W gs gn m ab a aj v6 bu v10 v11 E:=by
 have ap:∀k,k<w.heap.size→ab.heap[k]?=w.heap[k]?:=fun k ap=>aw.block k ap fun h=>h;have hs:=aw.size;refine⟨?_,h.o,fun bx=>?_,fun k ap=>⟨(h.e k ap).1,by have:=(h.e k ap).2;omega⟩⟩
 ·rcases h.g with⟨ac,av,aV⟩|⟨ac,av⟩|⟨ac,av,F,aV,bz⟩
  ·exact .inl ⟨ac,av,aV.ak fun k ap=>by simp at ap⟩
  ·exact .inr (.inl ⟨ac,av.ak fun b O=>ap b (h.e b O).2⟩)
  ·exact .inr (.inr ⟨ac,av,F,aV.ak fun b O=>ap b (bz b O).2,fun k ap=>⟨(bz k ap).1,by have:=(bz k ap).2;omega⟩⟩)
 ·obtain⟨A,ac,av⟩:=h.t bx;exact⟨A,ac,(av.ak fun b O=>ap b O.2.1).mono fun b O=>⟨O.1,by have:=O.2.1;omega,O.2.2⟩⟩
theorem HR.ak{W:World}{mi:Int}{L b:Nat}{w ab:World}{q s y G H:Value}{E a:List Nat}(h:HR W mi L w b q s y G H E)(hs:w.heap.size≤ab.heap.size)(ap:∀k,W.heap.size≤k→k<w.heap.size→k∉E→ab.heap[k]?=w.heap[k]?∧k∉a):HR W mi L ab b q s y G H a:=by
 have cf:∀b,wm W w E b→ab.heap[b]?=w.heap[b]?:=fun b O=>(ap b O.1 O.2.1 O.2.2).1;have hm:∀b,wm W w E b→wm W ab a b:=fun b O=>⟨O.1,by have:=O.2.1;omega,(ap b O.1 O.2.1 O.2.2).2⟩
 refine⟨fun O=>?_,fun O=>?_,fun O=>?_⟩
 ·obtain⟨A,ac,av,aV⟩:=h.i O;exact⟨A,ac,(av.ak cf).mono hm,aV⟩
 ·obtain⟨A,ac,av,aV⟩:=h.f O;exact⟨A,ac,(av.ak cf).mono hm,aV⟩
 ·obtain⟨A,ac,av⟩:=h.h O;exact⟨A,ac,(av.ak cf).mono hm⟩
theorem Fq{ops:Array Oper}{Q:Exit→Act→World→Prop}{W:World}{gs:List Int}{gn gc mn mc L ws:Nat}{GA MA:Ls}{mi:Int}{X:List bI}{bs Z bv az aA J N Y aa af ag ah ai:Value}{a0 a3 a6 a7 a8 a18 a19 a20 a21 a22:Array Edge}{p0 p3 p6 p7 p8 p18 p19 p20 p21 p22:String}
  (hG:Sl W (au W) GA gn (gs.map D.i)) (rD:gn≤100000) (hM:cq (EF gy) 3 W W.heap.size MA mn X) (hX:m2 X) (bS:L≤100000) (m1:ws≤W.heap.size)
  (o0:ops[0]?=some ⟨some 3,.buildSlice 22 0 #[],22,p0,a0,none⟩)
  (o3:ops[3]?=some ⟨some 6,.call {callee:=.builtin .append,args:=#[.tmp 3,.tmp 5],argTypes:=#[22,22]},22,p3,a3,none⟩)
  (o6:ops[6]?=some ⟨some 9,.call {callee:=.value (.func 53),args:=#[.tmp 8],argTypes:=#[24]},22,p6,a6,none⟩)
  (o7:ops[7]?=some ⟨some 10,.call {callee:=.builtin .len,args:=#[.tmp 9],argTypes:=#[22]},3,p7,a7,none⟩)
  (o8:ops[8]?=some ⟨some 11,.makeSlice 37 (.tmp 10) (.tmp 10),37,p8,a8,none⟩)
  (Jj:ops[18]?=some ⟨some 21,.makeSlice 22 (.tmp 20) (.tmp 20),22,p18,a18,none⟩)
  (Jk:ops[19]?=some ⟨some 22,.build 73 #[(0,.tmp 13),(2,.tmp 21)],73,p19,a19,none⟩)
  (Jl:ops[20]?=some ⟨some 23,.buildSlice 67 1 #[(0,.tmp 22)],67,p20,a20,none⟩)
  (Jm:ops[21]?=some ⟨some 24,.build 69 #[(0,.tmp 23)],69,p21,a21,none⟩)
  (Jn:ops[22]?=some ⟨some 25,.buildSlice 38 1 #[(0,.tmp 24)],38,p22,a22,none⟩)
  (lU:∀aj v6 bu v10 v11 q s y G H E w,Ext W w→H4 W gs gn (own X).length w 4 aj v6 bu v10 v11 E→HR W mi L w 3 q s y G H E→cP prog ops Q (Fr (fun k=>¬k<ws)) [24] (.free 23 (.pick [24] fun _=>.stop)) ⟨#[bs,Z,bv,aj,az,.slice GA gn gc,v6,aA,.slice MA mn mc,bu,v10,v11,J,.int .i64 mi,N,Y,aa,af,ag,ah,.int .i64 (L:Int),q,s,y,G,H,ai],[]⟩ w) :
  ∀(n a b:Nat),a≤4→b≤3→8≤n+a+b→∀aj v6 bu v10 v11 q s y G H E w,Ext W w→H4 W gs gn (own X).length w a aj v6 bu v10 v11 E→HR W mi L w b q s y G H E→
   cP prog ops Q (Fr (fun k=>¬k<ws)) [24] (gM n a b) ⟨#[bs,Z,bv,aj,az,.slice GA gn gc,v6,aA,.slice MA mn mc,bu,v10,v11,J,.int .i64 mi,N,Y,aa,af,ag,ah,.int .i64 (L:Int),q,s,y,G,H,ai],[]⟩ w:=by
 intro n
 induction n with
 | zero=>intro a b bx O hn;omega
 | succ n ao=>
  intro a b bx O hn aj v6 bu v10 v11 q s y G H E w aw bw aR;unfold gM
  cases ay:(a == 4 && b == 3) with
  | true=>
   simp only[KS,beq_iff_eq] at ay;obtain⟨rfl,rfl⟩:=ay
   exact lU _ _ _ _ _ _ _ _ _ _ _ _ aw bw aR
  | false=>
  have U:=aw.size;have z:∀o:Obj,Fr (fun k=>¬k<ws) w (w.alloc o):=fun o=>Lo.alloc o;have bW:∀o:Obj,(w.alloc o).heap.size=w.heap.size+1:=fun o=>World.kI w o;have C:∀o:Obj,Ext W (w.alloc o):=fun o=>aw.alloc o;have bb:∀o:Obj,Ext w (w.alloc o):=fun o=>Lo.alloc o;have bA:∀o:Obj,HR W mi L (w.alloc o) b q s y G H E:=fun o=>aR.ak (by rw[bW];omega) fun k _ ap hn=>⟨Below.heap_alloc w o k ap,hn⟩
  intro i an;simp only[xM,KP] at an;rcases an with an|an
  ·have cm:a=0∨a=1∨a=2∨a=3∨a=4:=ad;rcases cm with rfl|rfl|rfl|rfl|rfl
   ·
    have i0:i=0:=by simpa using an
    subst i0;obtain⟨m,a5⟩:E=[]∧iu 3 1 gn (gs.map dc) w 0 aj v6 []:=by
     rcases bw.g with⟨_,av,aV⟩|⟨ac,_⟩|⟨ac,_⟩
     ·exact⟨av,aV⟩
     ·omega
     ·omega
    subst m;obtain⟨_,_,dj⟩:=a5.begin rfl;refine⟨_,o0,fun K hK=>?_⟩;rw[if_pos (by rfl)];refine EI (hK _ _ (fun _=>z _) ?_)
    try simp only[PU]
    refine ao 1 b ad O ad _ _ _ _ _ _ _ _ _ _ [w.heap.size] _ (C _) ⟨.inr (.inl ⟨rfl,dj⟩),fun h=>ad,fun h=>ad,fun k ap=>?_⟩ (aR.ak (by rw[bW];omega) fun k _ ap hn=>⟨Below.heap_alloc w _ k ap,fun h=>by have:=Li.1 h;omega⟩);rw[bW];have:=Li.1 ap;omega
   ·
    have i0:i=3:=by simpa using an
    subst i0;have a5:iu 3 1 gn (gs.map dc) w 1 aj v6 E:=by
     rcases bw.g with⟨ac,_⟩|⟨_,aV⟩|⟨ac,_⟩
     ·omega
     ·exact aV
     ·omega
    refine⟨_,o3,fun K hK=>?_⟩;rw[if_pos (by rfl)];refine iu.fill a5 de (.tmp 3) (.tmp 5) rfl rfl rfl (by have:=Src.lx (hG.on (Fr.ext aw)).ints (jA _) (mH _) ad;rwa [tK] at this) ad ad (fun h=>by subst h;exact hG.none_) (fun v ab R dj bE bD r=>?_);have dC:=bE.size;have l:∀k∈E,W.heap.size≤k:=fun k ap=>(bw.e k ap).1;have S:Ext W ab:=Fr.low (M:=fun k=>k∈E) (Fr.trans (Fr.mono aw fun _ h=>h.elim) bE) l;refine hK _ _ (fun _=>bE.mono fun k ap=>by have:=l k ap;omega) ?_
    try simp only[PU]
    refine ao 2 b ad O ad _ _ _ _ _ _ _ _ _ _ [] _ S ⟨.inr (.inr ⟨ad,rfl,R,dj,fun k ap=>?_⟩),fun h=>ad,fun h=>ad,fun k ap=>by simp at ap⟩ (aR.ak dC fun k _ ap hn=>⟨bE.block k ap hn,by simp⟩);have ac:=r k ap;have:W.heap.size≤k:=by rcases ac.1 with av|av;exact l k av;omega
    omega
   ·
    have i0:i=6:=by simpa using an
    subst i0;refine⟨_,o6,fun K hK=>?_⟩;rw[if_pos (by rfl)];go_simp;refine(l2 MA mn mc X w (hM.c4 (Fr.ext aw) (Fr.ext aw).size) hX).mono ?_;rintro e ab ⟨I,aK,rfl,hc,hs,aX⟩;have d:Ext w ab:=Fr.of aX;refine hK _ _ (fun _=>Fr.mono d fun _ h=>h.elim) ?_
    try simp only
    show cP _ _ _ _ _ (.free 7 (gM n 3 b)) _ _
    refine k9 (v:=?_) o7 (by rfl) (fun V=>?_) ?_;rotate_left
    ·(go_simp<;>with_reducible rfl)
    try simp only[PU]
    have am:=bw.ak d;have a2:2≤2∧E=[]∧∃F,iu 3 1 gn (gs.map dc) ab 2 aj v6 F∧∀k∈F,W.heap.size≤k∧k<ab.heap.size:=by
     rcases am.g with⟨ac,_⟩|⟨ac,_⟩|aV
     ·omega
     ·omega
     ·exact aV
    exact ao 3 b ad O ad _ _ _ _ _ _ _ _ _ _ E _ (aw.trans d) ⟨.inr (.inr ⟨ad,a2.2⟩),fun _=>rfl,fun h=>ad,am.e⟩ (aR.ak d.size fun k _ ap hn=>⟨d.block k ap fun h=>h,hn⟩)
   ·
    have i0:i=8:=by simpa using an
    subst i0;have c:=bw.o ad;subst c;have hm:=cA hX;have d2:=fun W=>run_mk (P:=prog) kO .i64 .i64 (own X).length ad ad W;have aC:=wq (e:=102) (f:=bJ) (x:=⟨0,0⟩) (zc:=#[.int .i64 0,.int .i64 0]) (sz:=2) rfl rfl ad (own X).length ad (w:=w) (base:=w.heap.size) (KG _);refine⟨_,o8,fun K hK=>?_⟩;rw[if_pos (by rfl)];have bN:=ae aC;clear aC;go_simp;refine hK _ _ (fun _=>z _) ?_
    try simp only
    have am:=bw.ak (bb (.cells (madeCells #[.int .i64 0,.int .i64 0] ((own X).length*2)) 102));have a2:2≤3∧E=[]∧∃F,iu 3 1 gn (gs.map dc) (w.alloc (.cells (madeCells #[.int .i64 0,.int .i64 0] ((own X).length*2)) 102)) 2 aj v6 F∧∀k∈F,W.heap.size≤k∧k<(w.alloc (.cells (madeCells #[.int .i64 0,.int .i64 0] ((own X).length*2)) 102)).heap.size:=by
     rcases am.g with⟨ac,_⟩|⟨ac,_⟩|aV
     ·omega
     ·omega
     ·exact aV
    refine ao 4 b ad O ad _ _ _ _ _ _ _ _ _ _ E _ (C _) ⟨.inr (.inr ⟨ad,a2.2⟩),fun _=>rfl,fun _=>⟨_,rfl,?_⟩,am.e⟩ (bA _);exact Sl.qe bN.o (dw _) (by simp) fun g _ ac av=>⟨ad,av,by simp⟩
   ·simp at an
  ·have cm:b=0∨b=1∨b=2∨b=3:=ad;rcases cm with rfl|rfl|rfl|rfl
   ·
    have i0:i=18:=by simpa using an
    subst i0;have d2:=fun W=>run_mk (P:=prog) de .i64 .i64 L ad ad W;have aC:=wq (e:=3) (f:=cM) (x:=0) (zc:=#[.int .i64 0]) (sz:=1) rfl rfl ad L ad (w:=w) (base:=w.heap.size) (KG _);rw[tK,Nat.mul_one] at aC;have bN:=ae aC;clear aC;refine⟨_,Jj,fun K hK=>?_⟩;rw[if_pos (by rfl)];go_simp;refine hK _ _ (fun _=>z _) ?_
    try simp only
    show cP _ _ _ _ _ (.free 19 (gM n a 1)) _ _
    refine k9 (v:=?_) Jk (by rfl) (fun V=>?_) ?_;rotate_left
    ·(go_simp<;>with_reducible rfl)
    try simp only[PU]
    refine ao a 1 bx ad ad _ _ _ _ _ _ _ _ _ _ E _ (C _) (bw.ak (bb _)) ⟨fun _=>⟨_,rfl,?_,rfl⟩,fun h=>ad,fun h=>ad⟩;exact Sl.qe bN.o (cu _) (by simp) fun g _ ac av=>⟨ad,av,fun h=>by have:=(bw.e g h).2;omega⟩
   ·
    have i0:i=20:=by simpa using an
    subst i0;obtain⟨A,ak,hs,al⟩:=aR.i ad;subst ak al;refine⟨_,Jl,fun K hK=>?_⟩;rw[if_pos (by rfl)];go_simp;refine hK _ _ (fun _=>z _) ?_
    try simp only
    show cP _ _ _ _ _ (.free 21 (gM n a 2)) _ _
    refine k9 (v:=?_) Jm (by rfl) (fun V=>?_) ?_;rotate_left
    ·(go_simp<;>with_reducible rfl)
    try simp only[PU]
    have t:=bA (.cells #[.int .i64 mi,.int .i64 0,.slice A L L,.slice none 0 0] 73);obtain⟨A2,u,bO,_⟩:=t.i ad;injection u with u _ _;subst u;have T:=aq.new w 73 #[.int .i64 mi,.int .i64 0,.slice A L L,.slice none 0 0];refine ao a 2 bx ad ad _ _ _ _ _ _ _ _ _ _ E _ (C _) (bw.ak (bb _)) ⟨fun _=>t.i ad,fun _=>⟨_,rfl,⟨rfl,fun _=>⟨w.heap.size,0,_,rfl,⟨U,by rw[bW];omega,fun h=>by have:=(bw.e _ h).2;omega⟩,D.bj.2 (ga.2 ⟨A,L,L,none,0,0,rfl,KG _,KG _,bO,Sl.bO _⟩),fun j v bi=>?_⟩⟩,rfl⟩,fun h=>ad⟩;rw[KY,T.cell];simpa using bi
   ·
    have i0:i=22:=by simpa using an
    subst i0;obtain⟨A,ar,hs,ax⟩:=aR.f ad;subst ar ax;refine⟨_,Jn,fun K hK=>?_⟩;rw[if_pos (by rfl)];go_simp;refine hK _ _ (fun _=>z _) ?_
    try simp only
    have t:=bA (.cells #[.slice A 1 1] 69);obtain⟨A2,B,bO,_⟩:=t.f ad;injection B with B _ _;subst B;have T:=aq.new w 69 #[.slice A 1 1];refine ao a 3 bx ad ad _ _ _ _ _ _ _ _ _ _ E _ (C _) (bw.ak (bb _)) ⟨fun _=>t.i ad,fun _=>t.f ad,fun _=>⟨_,rfl,rfl,fun _=>⟨w.heap.size,0,_,rfl,⟨U,by rw[bW];omega,fun h=>by have:=(bw.e _ h).2;omega⟩,D.bj.2 (eS.2 ⟨A,1,1,rfl,KG _,bO⟩),fun j v bi=>?_⟩⟩⟩;rw[KY,T.cell];simpa using bi
   ·simp at an
namespace CO
theorem eQ(h:p:=by
 refine b3 ?_;generalize hX:World.setCell _ _ _=Z;obtain⟨bh,a9,be⟩:=bA (w:=w) [.slice bY gn c1,.slice A2 (own u.af).length (own u.af).length,.slice cC 1 1,.int .i64 0] (by rfl) m.2.2.2.2.1 m.2.2.2.2.2 ad hX;have bd:=ag a9 be;clear hX a9 be bl aA aO;obtain⟨bl,aA,aO⟩:=bh.two;clear bh;go_wp2_with(fail);refine Ln (v:=.agg #[.slice bY gn c1,.slice A2 (own u.af).length (own u.af).length,.slice cC 1 1,.int .i64 0]) (by simp[results,Tryz.results18,go_sem,bl]) rfl ?_;have cR:=bd.2.size;have ci:u.globals.length=gn:=by have:=(ah.2.2).at_.g.1;rw[KK] at this;exact this
 have aU:∀b,W.heap.size≤b→b<V.heap.size→Z.heap[b]?=V.heap[b]?:=fun b ac av=>bd.2.block b av ad;have hm:∀b,W.heap.size≤b→b<V.heap.size→(False∨(w.heap.size≤b∧b<Z.heap.size)):=fun b ac av=>.inr ⟨ad,ad⟩;have a5:=m.1.ak (ab:=Z) fun b O=>aU b (m.2.1 b O).1 (m.2.1 b O).2;rw[xL];have cV:da u u.main [] []=⟨u.main,0,List.replicate L 0,[]⟩:=by unfold da;rw[cz.2.1];simp
 rw[cV];exact⟨⟨bY,gn,c1,A2,(own u.af).length,(own u.af).length,cC,1,1⟩,rfl,⟨⟨a5.sl (cu _) (by rw[KK];exact ci) fun b O=>hm b (m.2.1 b O).1 (m.2.1 b O).2,(m.2.2.1.ak fun b O=>aU b O.1 O.2.1).mono fun b O=>hm b O.1 O.2.1,(m.2.2.2.1.ak fun b O=>aU b O.1 O.2.1).mono fun b O=>hm b O.1 O.2.1⟩,a5.cap,KG _,KG _⟩,bd.1⟩
 ):p:=h
theorem lJ(h:p:=by
 have ah:=aB aw cA (cc.on aw);have cY:=aw.size;have dr:=cA.lt;have b5:=(aw.cell cz.2.2.1 fun h=>h).trans cz.2.2.2;have bk:pb<W.heap.size:=KH cz.2.2.1 aw.size;obtain⟨a0,ai,af⟩:=aR.two;obtain⟨ws,m1⟩:∃ws,ws=W.heap.size:=⟨_,rfl⟩
 have b7:w.heap.size<ws:=ad;have c8:pb<ws:=ad;have aE:=ae m1;clear ba aw aR cA m1;refine q4 (fun k=>¬k<ws) [24] (.free 1 (.held 2 (.free 4 (.held 5 (.free 9 (.held 10 (.free 11 (.held 12 (.free 13 (.held 14 (.free 15 (.free 16 (.held 17 (gM 8 0 0)))))))))))))) ?_;refine tf ?_;refine mV ?_;refine tf ?_;refine mV ?_;refine tf ?_;refine mV ?_;refine tf ?_;refine mV ?_;refine tf ?_;refine mV ?_
 iterate 2 refine tf ?_
 refine mV ?_;have aa:Ext W W.drew:=(Fr.refl _ W).drew;refine Fq (W:=W) (gs:=u.globals) (gn:=gn) (gc:=gc) (mn:=mn) (mc:=mc) (L:=L) (ws:=ws) (GA:=GA) (MA:=MA) (mi:=u.main) (X:=u.af) (p0:=?Kc) (a0:=?JU) (p3:=?Kk) (a3:=?J2) (p6:=?Ky) (a6:=?Ks) (p7:=?Kl) (a7:=?J3) (p8:=?Km) (a8:=?J4) (p18:=?Kf) (a18:=?JX) (p19:=?Kg) (a19:=?JY) (p20:=?Kh) (a20:=?JZ) (p21:=?Ki) (a21:=?J0) (p22:=?Kj) (a22:=?J1) ?hG rD ?hM ?hX b9 ?m1 ?o0 ?o3 ?o6 ?o7 ?o8 ?Jj ?Jk ?Jl ?Jm ?Jn ?lU 8 0 0 ad ad ad undef undef undef undef undef undef undef undef undef undef [] W.drew aa ?sA ?sB
 case hG=>exact ah.2.2.at_.g
 case hM=>exact ah.2.2.at_.m.ou
 case hX=>exact cz.1.ok.yW
 case m1=>have:=aE.o;omega
 case o0=>rfl
 case o3=>rfl
 case o6=>rfl
 case o7=>rfl
 case o8=>rfl
 case Jj=>rfl
 case Jk=>rfl
 case Jl=>rfl
 case Jm=>rfl
 case Jn=>rfl
 case sA=>exact⟨.inl ⟨rfl,rfl,.inl ⟨rfl,rfl,rfl,rfl⟩⟩,fun h=>ad,fun h=>ad,fun k ap=>by simp at ap⟩
 case sB=>exact⟨fun h=>ad,fun h=>ad,fun h=>ad⟩
 case lU=>
  intro aj v6 bu v10 v11 q s y G H E V bj bw aR;obtain⟨bY,c1,F,rfl,cg,U⟩:∃A c F,v6=.slice A gn c∧Own V 3 1 A gn c (u.globals.map dc) F∧∀k∈F,W.heap.size≤k∧k<V.heap.size:=by
   rcases bw.g with⟨h,_⟩|⟨h,_⟩|⟨_,_,F,h,hF⟩
   ·omega
   ·omega
   ·rcases h with⟨h,_⟩|⟨h,_⟩|⟨_,A,c,ac,av⟩
    ·omega
    ·omega
    ·exact⟨A,c,F,ac,av,hF⟩
  obtain⟨A2,rfl,aM⟩:=bw.t ad;obtain⟨cC,rfl,aL⟩:=aR.h ad;have z:=ah.2.1.ai bj;have T:=ah.1.trans bj;have dm:=bj.size;have m:=cT cg U aM aL z T;obtain⟨bl,aA,aO⟩:=z.two;clear cg U aM aL z T bw aR bj a0 ai af b5;refine tf ?_;exact fj
 ):p:=h
end CO
open CO in
theorem Jw(u:ay)(w:World)(p:UV)(hU:uW u)(hu:p.Ok w u) :
  Calls prog 18 #[.agg (p.val u)] w (FX (fun _=>False) w (dA u)):=by
 obtain⟨GA,gn,gc,MA,mn,mc,PA,pn,pc⟩:=p;obtain⟨dR,bB,a1,an,ce⟩:=hU.ok.main;have b2:=hU.ok.procs dR (KJ a1);have cn:=b2.ints;have rD:gn≤100000:=by have ac:=hu.at_.g.1;have av:=hU.ok.n7;rw[KK] at ac;have aV:u.globals.length=gn:=ac;omega
 have bk:=hu.at_.p.1;rw[KK] at bk;simp only at bk;have cf:=(List.getElem?_eq_some_iff.1 a1).1;obtain⟨pb,fu,dD,bx,bW,bJ,e,eN,cM,cE,cw,cG,b5,cK,_,_⟩:=hu.at_.proc (k:=u.main.toNat) (by show u.main.toNat<pn;omega);simp only at e;subst e;rw[a1] at cM;injection cM with cM;subst cM;obtain⟨L,aJ⟩:=KL (a:=dR.locals) ad;rw[aJ] at b5;have b9:L≤100000:=ad;have bX:u.main<(pn:Int):=ad;have bz:eV u u.main=L:=by unfold eV;rw[a1];simp[aJ]
 have cz:=bH hU bz eN b5;have cc:=ae hu;clear hU a1 an ce b2 cn hu bk cf cE cw cG b5 cK aJ bz;dsimp only[UV.val];go_enter func18,ntmps18;exact lI
structure RO(P:Nat→Prop)(B:Nat)(w:World)(s:aj)(k:Nat)(fs:List al)(f:al)(N:Nat)(q:SV)(O lb lc:Nat)(hx cK:List Value)(IA:Ls)(ic:Nat)(S:Ls)(aH:Nat)(F1 F2 a4:List Nat):Prop where
 th:s.threads[k]?=some (fs++[f])
 gl:q.gn=s.globals.length
 tl:q.tn=s.table.length
 hl:q.hn=s.threads.length
 g:Own w 3 1 q.GA q.gn q.gc (s.globals.map dc) F1
 t:Own w 102 2 q.TA q.tn q.tc (s.table.flatMap bJ) F2
 h:Own w 69 1 q.HA q.hn q.hc hx [O]
 mC:q.HA=some ⟨O,0,none⟩
 qQ:∀j cL,j≠k→s.threads[j]?=some cL→∃u,hx[j]?=some u∧(jP cL).rep w P [u]
 yV:hx[k]?=some (.slice (some ⟨lb,0,none⟩) (fs.length+1) lc)
 l:Own w 73 4 (some ⟨lb,0,none⟩) (fs.length+1) lc (cK++[.int .i64 f.proc,.int .i64 f.pc,.slice IA f.ints.length ic,.slice S f.av.length aH]) [lb]
 fr:D.aQ w P (fs.map er) cK
 lk:Sl w P S f.av.length (f.av.map D.i)
 GK:f.av.length≤aH
 i:Own w 3 1 IA f.ints.length ic (f.ints.map dc) a4
 o:aq w N 40 (q.val s)
 nd:(N::O::lb::(F1++(F2++a4))).Nodup
 lo:∀b∈N::O::lb::(F1++(F2++a4)),B≤b∧b<w.heap.size
 pb:∀b,P b→b<B
def H5(P:Nat→Prop)(w:World)(s:aj)(k:Nat)(fs:List al)(f:al)(e:Ending)(ab:World):Prop:=∃q O lb lc hx cK IA ic S aH F1 F2 a4,e=.returned (.agg (q.val s))∧Ext w ab∧
 ∀V N,Ext ab V→aq V N 40 (q.val s)→ab.heap.size≤N→RO P w.heap.size V s k fs f N q O lb lc hx cK IA ic S aH F1 F2 a4
namespace CP
theorem eQ(h:p:=by
 refine b3 ?_;generalize hX:World.setCell _ _ _=X;obtain⟨cy,b8⟩:=ke 0 [.slice bY gn c1,.slice A2 tn c2,.slice cC hn c3,.int .i64 s.fault] an hX;have bo:aq X N 40 #[.slice bY gn c1,.slice A2 tn c2,.slice cC hn c3,.int .i64 s.fault]:=cy;have bf:∀k∈F1++(F2++bQ),k≠N:=by
  have:=eF (A:=F1++(F2++bQ)) (B:=[]) (x:=N) (by simpa using bD);simpa using this
 have bR:∀k,k∈F1++(F2++bQ)→k∈F1++(F2++(bQ++[N])):=fun k ap=>by
  simp only[KP] at ap ⊢;rcases ap with ap|ap|ap
  ·exact .inl ap
  ·exact .inr (.inl ap)
  ·exact .inr (.inr (.inl ap))
 have ax:∀k∈F1++(F2++bQ),X.heap[k]?=V.heap[k]?:=fun k ap=>b8.block k (bv k (bR k ap)).2 (bf k ap);have br:Ext W X:=Fr.low (M:=fun b=>b=N) (Fr.trans (Fr.mono bj fun _ h=>h.elim) b8) fun b O=>by rw[O];exact ci.1
 have aQ:=hR (cg.ak fun k ap=>ax k (by simp[ap])) (aM.ak fun k ap=>ax k (by simp[ap])) (aL.ak fun k ap=>ax k (by simp[ap])) bo bD (fun k ap=>(⟨(bv k ap).1,by have:=(bv k ap).2;have:=b8.size;omega⟩:W.heap.size≤k∧k<X.heap.size)) br;obtain⟨a0,ai,af⟩:=(ah.2.1.ai br).two;have aJ:Ext w X:=ah.1.trans br;have n:∀b,P b→X.heap[b]?=w.heap[b]?:=fun b O=>aJ.block b (bm.2.1 b O) fun h=>h;obtain⟨ds,d4,cU,FA,m,fc,cj,T,r,db,co,bP⟩:=bm.1.at_.h.lA (k:=t.toNat) (by show t.toNat<hn;omega);simp only at cj;subst cj;have dw:cU=fs++[f]:=by have:=bm.2.2.2.1;rw[r] at this;injection this
 subst dw;obtain rfl:m=fs.length+1:=by have:=bP.1;simpa using this.symm
 have dF:=(aJ.cell (j:=d4+t.toNat) (bm.2.1 _ T) fun h=>h).trans db;have dp:=bP.ak n;have cv:ds<X.heap.size:=by have:=bm.2.1 _ T;have:=aJ.size;omega
 have cw:∀d∈(fs++[f]).map er,d.sz=4:=fun d hd=>by obtain⟨x,_,rfl⟩:=Lf.1 hd;rfl
 obtain⟨dM,b6,ay⟩:=Sl.src (z:=4) dp cw;rw[KN] at b6;obtain⟨bc,cN,rfl,bw,bt⟩:=D.j2 b6;obtain⟨IA,ii,ic,S,dJ,aH,rfl,aN,a2,dv,ch⟩:=ga.1 (D.bj.1 bt);have dk:bc.length=fs.length*4:=by rw[D.hb _ _ bw,D.gS (z:=4) (fun d hd=>by obtain⟨x,_,rfl⟩:=Lf.1 hd;rfl),KK]
 obtain rfl:ii=f.ints.length:=by have:=dv.1;simpa using this.symm
 obtain rfl:dJ=f.av.length:=by have:=ch.1;simpa using this.symm
 have dB:=b4.2.2.2;have bE:FA=none→fs.length+1=0:=fun h=>by subst h;exact dp.none_
 have hIn:IA=none→f.ints.length=0:=fun h=>by subst h;exact dv.none_
 have cI:cq (EF cM) 1 X X.heap.size IA f.ints.length f.ints:=(dv.mono (c5:=au X) fun b O=>by have:=bm.2.1 b O;have:=aJ.size;show b<X.heap.size;omega).ints;have bC:=cT bw ch a2 cI aJ dk;have be:=aB ay bE hIn;obtain⟨ct,cx,aY,dz,ck,cp,cu⟩:=aQ.2.2.1.block ad;subst cx;have cS:=bH aY ck cp cu;clear e0 a6 aP hX cy b8 bo bf bR ax cg aM aL an bD bv bj r T db bP n cw b6 bt bw ch dv aN a2 cI ay bE hIn aJ br aY ck cp cu dp co;go_upto_region 3 with(at_builtin;refine fT _ xr (by rfl) (.tmp 22) (.tmp 28) (by rfl) (by rfl) _ _ _ _ (by rfl) be.1 ad ad be.2.1 ?_;intro dC cc aS bb bU;have H1:=ag bb bU;clear bb bU);have cn:=H1.2.size;obtain⟨lb,df,dd,bT,cB,dh,cF⟩:=ie H1.1 ad;subst df;have d2:aS.cell? ⟨lb,fs.length*4+2,none⟩=some (.slice IA f.ints.length ic):=cB _ _ (by rw[←bC.2.2.2.2.2,List.getElem?_append_right ad,Nat.add_sub_cancel_left];rfl);have bX:Src aS 1 IA f.ints.length (f.ints.map dc):=by
  have:=Src.lx (bC.2.2.2.1.c4 H1.2 H1.2.size) (jA _) (mH _) ad
  rwa [tK] at this
 have ca:=aB bX dd cF;have cG:=dh;clear bX cF cB;go_upto_region 4 with(at_builtin;refine fT _ de (by rfl) (.tmp 34) (.tmp 41) (by rfl) (by rfl) _ _ _ _ (by rfl) ca.1 ad ad be.2.2 ?_;intro du cZ aT az bg;have bG:=ag az bg;obtain⟨f0,dL,dN⟩:aT.cell? ⟨lb,fs.length*4+2,none⟩=some (.slice IA f.ints.length ic)∧(∀j,aT.frozen? ⟨lb,j,none⟩=false)∧lb<aT.heap.size:=⟨((Fr.of (M:=fun _=>False) bg).cell bT fun h=>h).trans d2,fun j=>((Fr.of (M:=fun _=>False) bg).frozen bT fun h=>h).trans (cG j),KH bT bg.size⟩;clear az bg);generalize cr:World.setCell _ _ _=Y;obtain⟨dx,bV,-,-,-,-,bW⟩:=ie (b1 H1.1 bG.2) ad;obtain rfl:lb=dx:=by simpa using bV
 have c7:Y.ownsRow X.heap.size 73 4 (.slice (some ⟨lb,0,none⟩) (fs.length+1) cc) (fs.length+1) ((bc++[Value.int .i64 f.proc,.int .i64 f.pc,.slice IA f.ints.length ic,.slice S f.av.length aH]).set (fs.length*4+2) (.slice du f.ints.length cZ)):=by
  rw[←cr];exact bW _ _ ad
 have ar:Fr (fun b=>b=lb) aT Y:=cr▸(Fr.refl (fun b=>b=lb) _).setCell (.inl rfl) _;have c0:Ext X Y:=Fr.low (M:=fun b=>b=lb) (Fr.trans (Fr.trans (Fr.of H1.2) (Fr.of (Below.mono bG.2 (KG _)))) ar) fun b O=>by rw[O];exact ca.2.1
 have bL:∀b∈bq du f.ints.length cZ,aS.heap.size≤b∧b<aT.heap.size:=fun b O=>bG.1.lt b (by simpa using O);have c4:Own Y 3 1 du f.ints.length cZ (f.ints.map dc) (bq du f.ints.length cZ):=Own.ak (w:=aT) ⟨g9 bG.1 (Ld _),rfl⟩ fun b O=>ar.block b (bL b O).2 (aD (bL b O));have ce:∀b∈bq du f.ints.length cZ,aS.heap.size≤b∧b<Y.heap.size:=fun b O=>⟨(bL b O).1,KH (bL b O).2 ar.size⟩
 have cO:=aQ.2.2.1.ai c0;have bB:=aQ.2.2.2.1.ai c0;obtain⟨e0,a6,aP⟩:=bB.two;have b0:hx.length=hn:=by
  rw[D.hb _ _ bm.2.2.2.2.1,D.gS (z:=1) (fun d hd=>by obtain⟨x,_,rfl⟩:=Lf.1 hd;rfl),KK,Nat.mul_one];exact b4.2.2.1
 obtain⟨aR,am,-,dq,bM,dj,bO⟩:=cO.block ad;obtain rfl:ct=aR:=by simpa using am
 obtain⟨dK,di⟩:∃u,hx[t.toNat]?=some u:=⟨_,List.getElem?_eq_getElem ad⟩
 have c8:=bM t.toNat dK di;have dI:lb<Y.heap.size:=KH dN ar.size;have dE:=c0.size;have dH:=ca.2.1;have aK:=pe c7 c0 c4 ce cO bB b0 bO;clear di cr bV bW c7 ar c0 bL c4 ce cO bB am bM bO f0 dL d2 cG b0;go_upto_region 5 with(fail);generalize bu:World.setCell _ _ _=Z;have bD:=aQ.2.2.2.2.1;have ab:=aQ.2.2.2.2.2.1;rw[cS.1] at bD ab;have bf:∀b∈F1++F2++[N],b≠ct:=eF (A:=F1++F2) (B:=[N]) (x:=ct) (by simpa using bD);have cW:Own Z 69 1 (some ⟨ct,0,none⟩) hn c3 (hx.set t.toNat (.slice (some ⟨lb,0,none⟩) (fs.length+1) cc)) bQ:=bu▸aK.2.2.2.2.2.2.2 t.toNat _ ad;have aW:Fr (fun b=>b=ct) Y Z:=bu▸(Fr.refl (fun b=>b=ct) _).setCell (.inl rfl) _;have cR:∀b,b<X.heap.size→b≠ct→Z.heap[b]?=X.heap[b]?:=fun b O hn=>(aW.block b (KH O aK.2.1.size) hn).trans (aK.2.1.block b O fun h=>h);have e1:=aQ.1.ak fun b O=>cR b (ab b (by simp[O])).2 (bf b (by simp[O]));have da:=aQ.2.1.ak fun b O=>cR b (ab b (by simp[O])).2 (bf b (by simp[O]));have L:(bc++[Value.int .i64 f.proc,.int .i64 f.pc,.slice IA f.ints.length ic,.slice S f.av.length aH]).set (fs.length*4+2) (.slice du f.ints.length cZ)=bc++[Value.int .i64 f.proc,.int .i64 f.pc,.slice du f.ints.length cZ,.slice S f.av.length aH]:=by
  have:=bC.2.2.2.2.2;rw[List.set_append_right _ _ ad,this,Nat.add_sub_cancel_left];rfl
 have c9:Own Z 73 4 (some ⟨lb,0,none⟩) (fs.length+1) cc (bc++[Value.int .i64 f.proc,.int .i64 f.pc,.slice du f.ints.length cZ,.slice S f.av.length aH]) [lb]:=by
  rw[←L];exact Own.ak (w:=Y) ⟨g9 aK.1 (Ld _),rfl⟩ fun b O=>aW.block b (aD (Li.1 O)) (aD (Li.1 O))
 have ce:=aK.2.2.2.1;have c6:=aK.2.2.1.ak fun b O=>aW.block b (ce b O).2 (aD (ce b O));have bh:=aK.2.2.2.2.2.1.on aW (bf N (by simp));have bF:Ext W Z:=Fr.low (M:=fun b=>b=ct) (Fr.trans (Fr.mono (aQ.2.2.2.2.2.2.trans aK.2.1) fun _ h=>h.elim) aW) fun b O=>by rw[O];exact(ab ct (by simp)).1
 have bk:=ah.2.2.1.ai bF;have a9:Ext w Z:=ah.1.trans bF;have y:∀b∈ct::lb::(F1++(F2++bq du f.ints.length cZ)),W.heap.size≤b∧b<Z.heap.size:=by
  have ac:=aQ.2.2.2.2.2.2.size;have av:=aW.size;intro b O;rcases KW.1 O with O|O
  ·have:=ab ct (by simp);omega
  rcases KW.1 O with O|O
  ·omega
  rcases KP.1 O with O|O
  ·have:=ab b (by simp[O]);omega
  rcases KP.1 O with O|O
  ·have:=ab b (by simp[O]);omega
  ·have:=ce b O;omega
 have aX:(ct::lb::(F1++(F2++bq du f.ints.length cZ))).Nodup:=by
  have dy:(F1++F2).Nodup:=by have:=bD;rw[←List.append_assoc] at this;exact(List.nodup_append.1 this).1
  have cJ:(F1++F2++bq du f.ints.length cZ).Nodup:=List.nodup_append.2 ⟨dy,eW _ _ _,fun a bx b O h=>by
   have aV:=ce b O;have bz:a<X.heap.size:=(ab a (by rcases KP.1 bx with h|h<;>simp[h])).2;omega⟩
  rw[KU] at cJ;refine List.nodup_cons.2 ⟨fun h=>?_,List.nodup_cons.2 ⟨fun h=>?_,cJ⟩⟩
  ·rcases KW.1 h with O|O
   ·omega
   rcases KP.1 O with O|O
   ·exact bf ct (by simp[O]) rfl
   rcases KP.1 O with O|O
   ·exact bf ct (by simp[O]) rfl
   ·have:=ce ct O;omega
  ·rcases KP.1 h with O|O
   ·have:=ab lb (by simp[O]);omega
   rcases KP.1 O with O|O
   ·have:=ab lb (by simp[O]);omega
   ·have:=ce lb O;omega
 have b0:=aK.2.2.2.2.2.2.1;obtain⟨e0,a6,aP⟩:=bh.two;obtain⟨bl,aA,aO⟩:=bk.two;have bd:=zI e1 da cW c9 c6 bk a9 y aX b0;clear bu bD ab bf cW aW cR e1 da L c9 ce c6 bh bF bk a9 y aX b0 c8 dj;go_wp2_with(fail);generalize hU:World.setCell _ _ _=U;obtain⟨cX,cl,bI⟩:=bA (w:=w) [.slice bY gn c1,.slice A2 tn c2,.slice (some ⟨ct,0,none⟩) hn c3,.int .i64 s.fault] (by rfl) bd.2.2.2.2.2.1 bd.2.2.2.2.2.2.1 ad hU;have cz:=ag cl bI;clear hU cl bI e0 a6 aP bl aA aO;obtain⟨bl,aA,aO⟩:=cX.two;refine Ln (v:=.agg #[.slice bY gn c1,.slice A2 tn c2,.slice (some ⟨ct,0,none⟩) hn c3,.int .i64 s.fault]) (by simp[results,Tryz.results40,go_sem,bl]) rfl ?_;obtain⟨hG,hT,hH,bS,hI,-,-,y,aX,b0⟩:=bd.o;refine⟨⟨bY,gn,c1,A2,tn,c2,some ⟨ct,0,none⟩,hn,c3⟩,ct,lb,cc,hx.set t.toNat (.slice (some ⟨lb,0,none⟩) (fs.length+1) cc),bc,du,cZ,S,aH,F1,F2,bq du f.ints.length cZ,rfl,cz.1,fun V dD bj b5 dG=>?_⟩;have bI:=cz.2;have cV:=bI.size;have dm:=bj.size;have dn:∀b,W.heap.size≤b→b<Z.heap.size→V.heap[b]?=Z.heap[b]?:=fun b ac av=>(bj.block b ad fun h=>h).trans (bI.block b av ad);have cQ:∀b,P b→V.heap[b]?=w.heap[b]?:=fun b O=>(cz.1.trans bj).block b (bm.2.1 b O) fun h=>h;have dl:∀b,P b→V.heap[b]?=X.heap[b]?:=fun b O=>(cQ b O).trans (bC.2.2.2.2.1.block b (bm.2.1 b O) fun h=>h).symm;have aU:∀b∈ct::lb::(F1++(F2++bq du f.ints.length cZ)),V.heap[b]?=Z.heap[b]?:=fun b O=>dn b (y b O).1 (y b O).2;have aY:=cS.1;have dt:t.toNat<hx.length:=ad
 refine {th:=bm.2.2.2.1,gl:=b4.1.symm,tl:=b4.2.1.symm,hl:=b4.2.2.1.symm,g:=hG.ak fun b O=>aU b (by simp[O]),t:=hT.ak fun b O=>aU b (by simp[O]),h:=?_,mC:=rfl,qQ:=fun j cL bi b2=>?_,yV:=by simp[dt],l:=bS.ak fun b O=>aU b (by simp[Li.1 O]),fr:=D.bU dl _ _ bC.1,lk:=bC.2.1.ak dl,GK:=bC.2.2.1,i:=hI.ak fun b O=>aU b (by simp[O]),o:=b5,nd:=?_,lo:=fun b O=>?_,pb:=bm.2.1}
 ·rw[←aY];exact hH.ak fun b O=>aU b (by rw[aY] at O;simp[Li.1 O])
 ·obtain⟨cs,a5,cK,b9⟩:=D.oT (z:=1) bm.2.2.2.2.1 (fun d hd=>by obtain⟨x,_,rfl⟩:=Lf.1 hd;rfl) (k:=j) (d:=jP cL) (by rw[List.getElem?_map,b2];rfl);obtain⟨u,rfl⟩:=List.length_eq_one_iff.1 cK;have h0:=b9 0 u rfl;simp only[Nat.mul_one,KQ] at h0;exact⟨u,by rw[List.getElem?_set_ne (fun h=>bi h.symm)];exact h0,D.aS cQ _ _ a5⟩
 ·exact List.nodup_cons.2 ⟨fun h=>by have:=y dD h;omega,aX⟩
 ·rcases KW.1 O with O|O
  ·subst O;exact⟨ad,b5.lt⟩
  ·have:=y b O;omega
 ):p:=h
end CP
open CP in
theorem FB(P:Nat→Prop)(s:aj)(t:Int)(fs:List al)(f:al)(q:SV)(w:World)(h:q.Is w P s)(aZ:∀b,P b→b<w.heap.size)(a1:Small s)(dg:0≤t)(bK:s.threads[t.toNat]?=some (fs++[f])) :
  Calls prog 40 #[.agg (q.val s),.int .i64 t] w (H5 P w s t.toNat fs f):=by
 obtain⟨GA,gn,gc,TA,tn,tc,HA,hn,hc⟩:=q;have bZ:=h.ok aZ;have ci:s.globals.length=gn:=by have ac:=h.at_.g.1;rw[KK] at ac;exact ac
 have cH:s.table.length=tn:=by have ac:=h.at_.t.1;rw[KK] at ac;exact ac
 have cE:s.threads.length=hn:=by have ac:=h.at_.h.1;rw[KK] at ac;exact ac
 have rD:gn≤100000:=by have:=a1.g;omega
 have tq:tn≤100000:=by have:=a1.t;omega
 have ot:hn≤100000:=by have:=a1.h;omega
 have dA:t<(hn:Int):=by have:=(List.getElem?_eq_some_iff.1 bK).1;omega
 have cf:=(a1.f _ (KJ bK)).1;rw[KI] at cf;simp only[KT,KZ] at cf;have cD:=(a1.f _ (KJ bK)).2 f (by simp);obtain⟨hx,aC,cd⟩:=Sl.src (z:=1) h.at_.h (fun d hd=>by obtain⟨x,_,rfl⟩:=Lf.1 hd;rfl);have bm:=cT h aZ bZ bK aC cd;have b4:=bH ci cH cE cD;clear h aZ bZ bK aC cd ci cH cE a1 cD;dsimp only[SV.val];go_enter func40,ntmps40;go_upto_region 1 with(fail);generalize ba:World.alloc _ _=W;have aw:=iO ba;have bs:=gB ba;have cA:=fZ ba;have ah:=bH aw bs cA (bm.2.2.1.on aw);have cY:=aw.size;have dr:=cA.lt;obtain⟨a0,ai,af⟩:=bs.two;obtain⟨ws,m1⟩:∃ws,ws=W.heap.size:=⟨_,rfl⟩
 have b7:w.heap.size<ws:=ad;have aE:=ae m1;clear ba aw bs cA m1;refine q4 (fun b=>¬b<ws) [16] (.free 1 (.held 2 (.free 5 (.held 6 (.free 9 (.held 10 (.free 12 (.held 13 (jg 8 0 0 0 false))))))))) ?_;refine tf ?_;refine mV ?_;refine tf ?_;refine mV ?_;refine tf ?_;refine mV ?_;refine tf ?_;refine mV ?_;refine E1 (W:=W) (s:=s) (gn:=gn) (tn:=tn) (hn:=hn) (gc:=gc) (tc:=tc) (hc:=hc) (GA:=GA) (TA:=TA) (HA:=HA) (hx:=hx) (ws:=ws) (p0:=?Kc) (a0:=?JU) (p3:=?Kk) (a3:=?J2) (p4:=?Kx) (a4:=?Kr) (p7:=?Kl) (a7:=?J3) (p8:=?Km) (a8:=?J4) (p11:=?Kd) (a11:=?JV) (p15:=?Ke) (a15:=?JW) (t15:=?Kn) (aa:=(fun bn bp v10 v11 aF aI aG=>⟨#[.agg #[.slice GA gn gc,.slice TA tn tc,.slice HA hn hc,.int .i64 s.fault],.int .i64 t,.pointer (some ⟨w.heap.size,0,none⟩),undef,.pointer (some ⟨w.heap.size+1,0,none⟩),bn,undef,bp,.pointer (some ⟨w.heap.size,0,none⟩),.slice GA gn gc,v10,v11,.pointer (some ⟨w.heap.size,1,none⟩),.slice TA tn tc,aF,aI,.pointer (some ⟨w.heap.size,2,none⟩),.slice HA hn hc,aG,.pointer (some ⟨w.heap.size,3,none⟩),.int .i64 s.fault,undef,undef,undef,undef,undef,undef,undef,undef,undef,undef,undef,undef,undef,undef,undef,undef,undef,undef,undef,undef,undef,undef,undef,undef,undef,undef,undef,undef,undef,undef,undef],[]⟩)) ?hG ?hT ?hH ?Je ?rD ?tq ?ot ?m1 ?o0 ?o3 ?o4 ?o7 ?o8 ?Jh ?Ji ?q5 ?q7 ?EL ?IJ ?Js ?Jt ?Ju ?e7 ?e9 ?I6 ?I7 ?I8 ?I9 ?lU 8 0 0 0 false ?n1 ?n2 ?n3 ?n4 ?n5 ?n6 undef undef undef undef undef undef undef [] [] [] [] W.drew ?start
 case hG=>exact ah.2.2.2.at_.g
 case hT=>exact ah.2.2.2.at_.t
 case hH=>exact bm.2.2.2.2.2.on (Fr.ext ah.1)
 case Je=>exact fun h=>by subst h;exact ah.2.2.2.at_.h.none_
 case rD=>exact rD
 case tq=>exact tq
 case ot=>exact ot
 case m1=>have:=aE.o;omega
 case o0=>rfl
 case o3=>rfl
 case o4=>rfl
 case o7=>rfl
 case o8=>rfl
 case Jh=>rfl
 case Ji=>rfl
 case q5=>intro _ _ _ _ _ _ _ _;rfl
 case q7=>intro _ _ _ _ _ _ _ _;rfl
 case EL=>intro _ _ _ _ _ _ _ _;rfl
 case IJ=>intro _ _ _ _ _ _ _ _;rfl
 case Js=>intro _ _ _ _ _ _ _ _;rfl
 case Jt=>intro _ _ _ _ _ _ _ _;rfl
 case Ju=>intro _ _ _ _ _ _ _ _;rfl
 case e7=>intro _ _ _ _ _ _ _;rfl
 case e9=>intro _ _ _ _ _ _ _;rfl
 case I6=>intro _ _ _ _ _ _ _;rfl
 case I7=>intro _ _ _ _ _ _ _;rfl
 case I8=>intro _ _ _ _ _ _ _;rfl
 case I9=>intro _ _ _ _ _ _ _;rfl
 case n1=>omega
 case n2=>omega
 case n3=>omega
 case n4=>omega
 case n5=>omega
 case n6=>simp
 case start=>exact⟨Lo.drew,.inl ⟨rfl,rfl,rfl,rfl⟩,.inl ⟨rfl,rfl,rfl,rfl⟩,.inl ⟨rfl,rfl,rfl,rfl⟩,.inl ⟨rfl,rfl,rfl⟩,by simp,fun k ap=>by simp at ap⟩
 case lU=>
  intro b bn bp v10 v11 aF aI aG F1 F2 bQ cb V hC;obtain⟨bY,c1,rfl,cg⟩:∃A c,v10=.slice A gn c∧Own V 3 1 A gn c (s.globals.map dc) F1:=by
   rcases hC.g with⟨h,_⟩|⟨h,_⟩|⟨_,h⟩
   ·cases h
   ·cases h
   ·exact h
  obtain⟨A2,c2,rfl,aM⟩:∃A c,aF=.slice A tn c∧Own V 102 2 A tn c (s.table.flatMap bJ) F2:=by
   rcases hC.t with⟨h,_⟩|⟨h,_⟩|⟨_,h⟩
   ·cases h
   ·cases h
   ·exact h
  obtain⟨cC,c3,rfl,aL⟩:∃A c,aG=.slice A hn c∧Own V 69 1 A hn c hx bQ:=by
   rcases hC.h with⟨h,_⟩|⟨h,_⟩|⟨_,h⟩
   ·cases h
   ·cases h
   ·exact h
  refine tf ?_;refine wU (P:=?P1) (ops:=?Kw) (Q:=?KB) (R:=?KD) (tails:=?KF) (rest:=.pick [16] (fun _=>.stop)) (aa:=?Kt) (C:=fun(N:Nat) V=>Ext W V∧Own V 3 1 bY gn c1 (s.globals.map dc) F1∧Own V 102 2 A2 tn c2 (s.table.flatMap bJ) F2∧Own V 69 1 cC hn c3 hx bQ∧aq V N 40 #[.slice none 0 0,.slice none 0 0,.slice none 0 0,.int .i64 0]∧(F1++(F2++(bQ++[N]))).Nodup∧∀k∈F1++(F2++(bQ++[N])),W.heap.size≤k∧k<V.heap.size) (fun key=>?main) ?key
  case main=>
   rcases hC.o with⟨rfl,rfl,bz⟩|⟨rfl,N,rfl,bz,cm⟩
   ·subst bz;show cP _ _ _ _ _ (.pick [15] fun _=>.pick [16] fun _=>.stop) _ _
    refine ao ?_;refine dP ?_;have ak:∀k∈F1++(F2++(bQ++[])),k<V.heap.size:=fun k ap=>(hC.lo k ap).2;have hD:Ext W (V.alloc (.cells #[.slice none 0 0,.slice none 0 0,.slice none 0 0,.int .i64 0] 40))∧Own (V.alloc (.cells #[.slice none 0 0,.slice none 0 0,.slice none 0 0,.int .i64 0] 40)) 3 1 bY gn c1 (s.globals.map dc) F1∧Own (V.alloc (.cells #[.slice none 0 0,.slice none 0 0,.slice none 0 0,.int .i64 0] 40)) 102 2 A2 tn c2 (s.table.flatMap bJ) F2∧Own (V.alloc (.cells #[.slice none 0 0,.slice none 0 0,.slice none 0 0,.int .i64 0] 40)) 69 1 cC hn c3 hx bQ∧aq (V.alloc (.cells #[.slice none 0 0,.slice none 0 0,.slice none 0 0,.int .i64 0] 40)) V.heap.size 40 #[.slice none 0 0,.slice none 0 0,.slice none 0 0,.int .i64 0]∧(F1++(F2++(bQ++[V.heap.size]))).Nodup∧∀k∈F1++(F2++(bQ++[V.heap.size])),W.heap.size≤k∧k<(V.alloc (.cells #[.slice none 0 0,.slice none 0 0,.slice none 0 0,.int .i64 0] 40)).heap.size:=by
     refine⟨hC.ext.alloc _,cg.ai (Lo.alloc _),aM.ai (Lo.alloc _),aL.ai (Lo.alloc _),Lp,?_,fun k ap=>?_⟩
     ·have:=p5 (F1:=F1++(F2++bQ)) (F2:=[]) (by simpa using hC.nd) (by simpa using ak);simpa using this
     ·rw[World.kI];have dm:=hC.ext.size;rcases g4.dh.1 ap with ap|ap|ap|ap
      ·have:=hC.lo k (g4.dh.2 (.inl ap));omega
      ·have:=hC.lo k (g4.dh.2 (.inr (.inl ap)));omega
      ·have:=hC.lo k (g4.dh.2 (.inr (.inr (.inl ap))));omega
      ·have:=Li.1 ap;omega
    generalize V.alloc (.cells #[.slice none 0 0,.slice none 0 0,.slice none 0 0,.int .i64 0] 40)=dQ at hD ⊢;generalize V.heap.size=N at hD ⊢;exact key N dQ hD
   ·subst bz;show cP _ _ _ _ _ (.pick [16] fun _=>.stop) _ _
    exact key N V ⟨hC.ext,cg,aM,aL,cm,hC.nd,hC.lo⟩
  clear hC cg aM aL V b;intro N V ⟨bj,cg,aM,aL,an,bD,bv⟩;obtain⟨e0,a6,aP⟩:=an.two;have ci:=bv N (by simp);clear a0 ai af;exact fj
end Go.Proofs.YtnhhdaggkiomoaaGreat

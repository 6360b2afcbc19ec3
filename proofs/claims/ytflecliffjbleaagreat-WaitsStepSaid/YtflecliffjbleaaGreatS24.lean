/- Part 24 of the proof. No condition of its own. -/
import Derived.Test.YtflecliffjbleaaGreatS23
namespace Go.Proofs.YtflecliffjbleaaGreat
open Go.RowKit Go.Proofs.Tryz
set_option maxRecDepth 1000000
set_option maxHeartbeats 25600000
set_option linter.unusedVariables false
variable{p:Prop}
def yi(a b:Nat):List Nat:=(bif a == 0 then [0] else bif a == 1 then [3] else bif a == 2 then [6] else bif a == 3 then [8] else [])++(bif b == 0 then [18] else bif b == 1 then [20] else bif b == 2 then [22] else [])
def gY:Nat->Nat->Nat->PT
 | 0,_,_=>.stop
 | n+1,a,b=>bif a == 4 && b == 3 then .free 23 (.pick [24] λ_=>.stop) else .pick (yi a b) λi=>
   bif i == 0 then gY n 1 b else bif i == 3 then gY n 2 b else bif i == 6 then .free 7 (gY n 3 b) else bif i == 8 then gY n 4 b else bif i == 18 then .free 19 (gY n a 1) else bif i == 20 then .free 21 (gY n a 2) else gY n a 3
abbrev wS(W w:World)(E:List Nat):Nat->Prop:=λk=>W.heap.size<=k/\k<w.heap.size/\k∉E
structure I2(W:World)(gs:List Int)(gn m:Nat)(w:World)(a:Nat)(bx v6 bq v10 v11:Value)(E:List Nat):Prop where
 g:(a=0/\E=[]/\iB 3 1 gn (gs.map dq) w 0 bx v6 [])\/(a=1/\iB 3 1 gn (gs.map dq) w 1 bx v6 E)\/(2<=a/\E=[]/\∃F,iB 3 1 gn (gs.map dq) w 2 bx v6 F/\∀k∈F,W.heap.size<=k/\k<w.heap.size)
 o:3<=a->v10=.int .i64 (m:Int)
 t:4<=a->∃A,v11=.slice A m m/\Sl w (wS W w []) A m ((List.replicate m ⟨0,0⟩).map mf)
 e:∀k∈E,W.heap.size<=k/\k<w.heap.size
structure IJ(W:World)(mi:Int)(L:Nat)(w:World)(b:Nat)(q s y G N:Value)(E:List Nat):Prop where
 i:1<=b->∃A,q=.slice A L L/\Sl w (wS W w E) A L ((List.replicate L 0).map D.i)/\s=.agg #[.int .i64 mi,.int .i64 0,.slice A L L,.slice none 0 0]
 f:2<=b->∃A,y=.slice A 1 1/\Sl w (wS W w E) A 1 ([(⟨mi,0,List.replicate L 0,[]⟩:an)].map gJ)/\G=.agg #[.slice A 1 1]
 h:3<=b->∃A,N=.slice A 1 1/\Sl w (wS W w E) A 1 ([[(⟨mi,0,List.replicate L 0,[]⟩:an)]].map mS)
theorem I2.ak{W:World}{gs:List Int}{gn m a:Nat}{w ab:World}{bx v6 bq v10 v11:Value}{E:List Nat}(h:I2 W gs gn m w a bx v6 bq v10 v11 E)(aF:Ext w ab):I2 W gs gn m ab a bx v6 bq v10 v11 E:=by
 have aj:∀k,k<w.heap.size->ab.heap[k]?=w.heap[k]?:=λk aj=>aF.block k aj λh=>h;have hs:=aF.size;refine⟨?_,h.o,λbr=>?_,λk aj=>⟨(h.e k aj).1,by have:=(h.e k aj).2;omega⟩⟩
 .rcases h.g with⟨ac,ax,a1⟩|⟨ac,ax⟩|⟨ac,ax,F,a1,aU⟩
  .exact .inl ⟨ac,ax,a1.ak λk aj=>by simp at aj⟩
  .exact .inr (.inl ⟨ac,ax.ak λb O=>aj b (h.e b O).2⟩)
  .exact .inr (.inr ⟨ac,ax,F,a1.ak λb O=>aj b (aU b O).2,λk aj=>⟨(aU k aj).1,by have:=(aU k aj).2;omega⟩⟩)
 .obtain⟨A,ac,ax⟩:=h.t br;exact⟨A,ac,(ax.ak λb O=>aj b O.2.1).mono λb O=>⟨O.1,by have:=O.2.1;omega,O.2.2⟩⟩
theorem IJ.ak{W:World}{mi:Int}{L b:Nat}{w ab:World}{q s y G N:Value}{E a:List Nat}(h:IJ W mi L w b q s y G N E)(hs:w.heap.size<=ab.heap.size)(aj:∀k,W.heap.size<=k->k<w.heap.size->k∉E->ab.heap[k]?=w.heap[k]?/\k∉a):IJ W mi L ab b q s y G N a:=by
 have b7:∀b,wS W w E b->ab.heap[b]?=w.heap[b]?:=λb O=>(aj b O.1 O.2.1 O.2.2).1;have hm:∀b,wS W w E b->wS W ab a b:=λb O=>⟨O.1,by have:=O.2.1;omega,(aj b O.1 O.2.1 O.2.2).2⟩
 refine⟨λO=>?_,λO=>?_,λO=>?_⟩
 .obtain⟨A,ac,ax,a1⟩:=h.i O;exact⟨A,ac,(ax.ak b7).mono hm,a1⟩
 .obtain⟨A,ac,ax,a1⟩:=h.f O;exact⟨A,ac,(ax.ak b7).mono hm,a1⟩
 .obtain⟨A,ac,ax⟩:=h.h O;exact⟨A,ac,(ax.ak b7).mono hm⟩
theorem Ga{ops:Array Oper}{Q:Exit->Act->World->Prop}{W:World}{gs:List Int}{gn gc mn mc L ws:Nat}{GA MA:Mk}{mi:Int}{X:List bL}{bU Z bm aA aB S aa ag ah ai ak an ap:Value}{a0 a3 a6 a7 a8 a18 a19 a20 a21 a22:Array Edge}{p0 p3 p6 p7 p8 p18 p19 p20 p21 p22:String}
  (hG:Sl W (av W) GA gn (gs.map D.i)) (vz:gn<=100000) (hM:cA (EF hk) 3 W W.heap.size MA mn X) (hX:oY X) (bw:L<=100000) (ns:ws<=W.heap.size)
  (o0:ops[0]?=some ⟨some 3,.buildSlice 22 0 #[],22,p0,a0,none⟩)
  (o3:ops[3]?=some ⟨some 6,.call {callee:=.builtin .append,args:=#[.tmp 3,.tmp 5],argTypes:=#[22,22]},22,p3,a3,none⟩)
  (o6:ops[6]?=some ⟨some 9,.call {callee:=.value (.func 113),args:=#[.tmp 8],argTypes:=#[23]},22,p6,a6,none⟩)
  (o7:ops[7]?=some ⟨some 10,.call {callee:=.builtin .len,args:=#[.tmp 9],argTypes:=#[22]},3,p7,a7,none⟩)
  (o8:ops[8]?=some ⟨some 11,.makeSlice 27 (.tmp 10) (.tmp 10),27,p8,a8,none⟩)
  (J9:ops[18]?=some ⟨some 21,.makeSlice 22 (.tmp 20) (.tmp 20),22,p18,a18,none⟩)
  (Ka:ops[19]?=some ⟨some 22,.build 99 #[(0,.tmp 13),(2,.tmp 21)],99,p19,a19,none⟩)
  (Kb:ops[20]?=some ⟨some 23,.buildSlice 47 1 #[(0,.tmp 22)],47,p20,a20,none⟩)
  (Kc:ops[21]?=some ⟨some 24,.build 49 #[(0,.tmp 23)],49,p21,a21,none⟩)
  (Kd:ops[22]?=some ⟨some 25,.buildSlice 28 1 #[(0,.tmp 24)],28,p22,a22,none⟩)
  (ia:∀bx v6 bq v10 v11 q s y G N E w,Ext W w->I2 W gs gn (own X).length w 4 bx v6 bq v10 v11 E->IJ W mi L w 3 q s y G N E->cR prog ops Q (Fr (λk=>¬k<ws)) [24] (.free 23 (.pick [24] λ_=>.stop)) ⟨#[bU,Z,bm,bx,aA,.slice GA gn gc,v6,aB,.slice MA mn mc,bq,v10,v11,S,.int .i64 mi,aa,ag,ah,ai,ak,an,.int .i64 (L:Int),q,s,y,G,N,ap],[]⟩ w) :
  ∀(n a b:Nat),a<=4->b<=3->8<=n+a+b->∀bx v6 bq v10 v11 q s y G N E w,Ext W w->I2 W gs gn (own X).length w a bx v6 bq v10 v11 E->IJ W mi L w b q s y G N E->
   cR prog ops Q (Fr (λk=>¬k<ws)) [24] (gY n a b) ⟨#[bU,Z,bm,bx,aA,.slice GA gn gc,v6,aB,.slice MA mn mc,bq,v10,v11,S,.int .i64 mi,aa,ag,ah,ai,ak,an,.int .i64 (L:Int),q,s,y,G,N,ap],[]⟩ w:=by
 intro n
 induction n with
 | zero=>intro a b br O hn;omega
 | succ n aq=>
  intro a b br O hn bx v6 bq v10 v11 q s y G N E w aF bO aS;unfold gY
  cases H:(a == 4 && b == 3) with
  | true=>
   simp only[LO,beq_iff_eq] at H;obtain⟨rfl,rfl⟩:=H
   exact ia _ _ _ _ _ _ _ _ _ _ _ _ aF bO aS
  | false=>
  have af:=aF.size;have z:∀o:Obj,Fr (λk=>¬k<ws) w (w.alloc o):=λo=>Mg.alloc o;have U:∀o:Obj,(w.alloc o).heap.size=w.heap.size+1:=λo=>World.k3 w o;have C:∀o:Obj,Ext W (w.alloc o):=λo=>aF.alloc o;have J:∀o:Obj,Ext w (w.alloc o):=λo=>Mg.alloc o;have bs:∀o:Obj,IJ W mi L (w.alloc o) b q s y G N E:=λo=>aS.ak (by rw[U];omega) λk _ aj hn=>⟨Below.heap_alloc w o k aj,hn⟩
  intro i al;simp only[yi,LL] at al;rcases al with al|al
  .have cy:a=0\/a=1\/a=2\/a=3\/a=4:=ad;rcases cy with rfl|rfl|rfl|rfl|rfl
   ·
    have i0:i=0:=by simpa using al
    subst i0;obtain⟨m,a9⟩:E=[]/\iB 3 1 gn (gs.map dq) w 0 bx v6 []:=by
     rcases bO.g with⟨_,ax,a1⟩|⟨ac,_⟩|⟨ac,_⟩
     .exact⟨ax,a1⟩
     .omega
     .omega
    subst m;obtain⟨_,_,de⟩:=a9.begin rfl;refine⟨_,o0,λK hK=>?_⟩;rw[if_pos (by rfl)];refine Fm (hK _ _ (λ_=>z _) ?_)
    try simp only[PU]
    refine aq 1 b ad O ad _ _ _ _ _ _ _ _ _ _ [w.heap.size] _ (C _) ⟨.inr (.inl ⟨rfl,de⟩),λh=>ad,λh=>ad,λk aj=>?_⟩ (aS.ak (by rw[U];omega) λk _ aj hn=>⟨Below.heap_alloc w _ k aj,λh=>by have:=Ma.1 h;omega⟩);rw[U];have:=Ma.1 aj;omega
   ·
    have i0:i=3:=by simpa using al
    subst i0;have a9:iB 3 1 gn (gs.map dq) w 1 bx v6 E:=by
     rcases bO.g with⟨ac,_⟩|⟨_,a1⟩|⟨ac,_⟩
     .omega
     .exact a1
     .omega
    refine⟨_,o3,λK hK=>?_⟩;rw[if_pos (by rfl)];refine iB.fill a9 cU (.tmp 3) (.tmp 5) rfl rfl rfl (by have:=Src.lT (hG.on (Fr.ext aF)).ints (ho _) (m0 _) ad;rwa [uq] at this) ad ad (λh=>by subst h;exact hG.none_) (λv ab Y de b3 aK r=>?_);have cj:=b3.size;have l:∀k∈E,W.heap.size<=k:=λk aj=>(bO.e k aj).1;have R:Ext W ab:=Fr.low (M:=λk=>k∈E) (Fr.trans (Fr.mono aF λ_ h=>h.elim) b3) l;refine hK _ _ (λ_=>b3.mono λk aj=>by have:=l k aj;omega) ?_
    try simp only[PU]
    refine aq 2 b ad O ad _ _ _ _ _ _ _ _ _ _ [] _ R ⟨.inr (.inr ⟨ad,rfl,Y,de,λk aj=>?_⟩),λh=>ad,λh=>ad,λk aj=>by simp at aj⟩ (aS.ak cj λk _ aj hn=>⟨b3.block k aj hn,by simp⟩);have ac:=r k aj;have:W.heap.size<=k:=by rcases ac.1 with ax|ax;exact l k ax;omega
    omega
   ·
    have i0:i=6:=by simpa using al
    subst i0;refine⟨_,o6,λK hK=>?_⟩;rw[if_pos (by rfl)];go_simp;refine(mv MA mn mc X w (hM.cS (Fr.ext aF) (Fr.ext aF).size) hX).mono ?_;rintro e ab ⟨I,aD,rfl,hc,hs,a4⟩;have d:Ext w ab:=Fr.of a4;refine hK _ _ (λ_=>Fr.mono d λ_ h=>h.elim) ?_
    try simp only
    show cR _ _ _ _ _ (.free 7 (gY n 3 b)) _ _
    refine lJ (v:=?_) o7 (by rfl) (λV=>?_) ?_;rotate_left
    ·(go_simp<;>with_reducible rfl)
    try simp only[PU]
    have am:=bO.ak d;have aY:2<=2/\E=[]/\∃F,iB 3 1 gn (gs.map dq) ab 2 bx v6 F/\∀k∈F,W.heap.size<=k/\k<ab.heap.size:=by
     rcases am.g with⟨ac,_⟩|⟨ac,_⟩|a1
     .omega
     .omega
     .exact a1
    exact aq 3 b ad O ad _ _ _ _ _ _ _ _ _ _ E _ (aF.trans d) ⟨.inr (.inr ⟨ad,aY.2⟩),λ_=>rfl,λh=>ad,am.e⟩ (aS.ak d.size λk _ aj hn=>⟨d.block k aj λh=>h,hn⟩)
   ·
    have i0:i=8:=by simpa using al
    subst i0;have c:=bO.o ad;subst c;have hm:=dt hX;have d9:=λW=>run_mk (P:=prog) mH .i64 .i64 (own X).length ad ad W;have az:=EI (e:=95) (f:=cb) (x:=⟨0,0⟩) (zc:=#[.int .i64 0,.int .i64 0]) (sz:=2) rfl rfl ad (own X).length ad (w:=w) (base:=w.heap.size) (Lz _);refine⟨_,o8,λK hK=>?_⟩;rw[if_pos (by rfl)];have a5:=ae az;clear az;go_simp;refine hK _ _ (λ_=>z _) ?_
    try simp only
    have am:=bO.ak (J (.cells (madeCells #[.int .i64 0,.int .i64 0] ((own X).length*2)) 95));have aY:2<=3/\E=[]/\∃F,iB 3 1 gn (gs.map dq) (w.alloc (.cells (madeCells #[.int .i64 0,.int .i64 0] ((own X).length*2)) 95)) 2 bx v6 F/\∀k∈F,W.heap.size<=k/\k<(w.alloc (.cells (madeCells #[.int .i64 0,.int .i64 0] ((own X).length*2)) 95)).heap.size:=by
     rcases am.g with⟨ac,_⟩|⟨ac,_⟩|a1
     .omega
     .omega
     .exact a1
    refine aq 4 b ad O ad _ _ _ _ _ _ _ _ _ _ E _ (C _) ⟨.inr (.inr ⟨ad,aY.2⟩),λ_=>rfl,λ_=>⟨_,rfl,?_⟩,am.e⟩ (bs _);exact Sl.qE a5.o (dS _) (by simp) λg _ ac ax=>⟨ad,ax,by simp⟩
   .simp at al
  .have cy:b=0\/b=1\/b=2\/b=3:=ad;rcases cy with rfl|rfl|rfl|rfl
   ·
    have i0:i=18:=by simpa using al
    subst i0;have d9:=λW=>run_mk (P:=prog) cU .i64 .i64 L ad ad W;have az:=EI (e:=3) (f:=cd) (x:=0) (zc:=#[.int .i64 0]) (sz:=1) rfl rfl ad L ad (w:=w) (base:=w.heap.size) (Lz _);rw[uq,Nat.mul_one] at az;have a5:=ae az;clear az;refine⟨_,J9,λK hK=>?_⟩;rw[if_pos (by rfl)];go_simp;refine hK _ _ (λ_=>z _) ?_
    try simp only
    show cR _ _ _ _ _ (.free 19 (gY n a 1)) _ _
    refine lJ (v:=?_) Ka (by rfl) (λV=>?_) ?_;rotate_left
    ·(go_simp<;>with_reducible rfl)
    try simp only[PU]
    refine aq a 1 br ad ad _ _ _ _ _ _ _ _ _ _ E _ (C _) (bO.ak (J _)) ⟨λ_=>⟨_,rfl,?_,rfl⟩,λh=>ad,λh=>ad⟩;exact Sl.qE a5.o (cI _) (by simp) λg _ ac ax=>⟨ad,ax,λh=>by have:=(bO.e g h).2;omega⟩
   ·
    have i0:i=20:=by simpa using al
    subst i0;obtain⟨A,ar,hs,au⟩:=aS.i ad;subst ar au;refine⟨_,Kb,λK hK=>?_⟩;rw[if_pos (by rfl)];go_simp;refine hK _ _ (λ_=>z _) ?_
    try simp only
    show cR _ _ _ _ _ (.free 21 (gY n a 2)) _ _
    refine lJ (v:=?_) Kc (by rfl) (λV=>?_) ?_;rotate_left
    ·(go_simp<;>with_reducible rfl)
    try simp only[PU]
    have t:=bs (.cells #[.int .i64 mi,.int .i64 0,.slice A L L,.slice none 0 0] 99);obtain⟨A2,u,bP,_⟩:=t.i ad;injection u with u _ _;subst u;have T:=ao.new w 99 #[.int .i64 mi,.int .i64 0,.slice A L L,.slice none 0 0];refine aq a 2 br ad ad _ _ _ _ _ _ _ _ _ _ E _ (C _) (bO.ak (J _)) ⟨λ_=>t.i ad,λ_=>⟨_,rfl,⟨rfl,λ_=>⟨w.heap.size,0,_,rfl,⟨af,by rw[U];omega,λh=>by have:=(bO.e _ h).2;omega⟩,D.bw.2 (gu.2 ⟨A,L,L,none,0,0,rfl,Lz _,Lz _,bP,Sl.bT _⟩),λj v bi=>?_⟩⟩,rfl⟩,λh=>ad⟩;rw[LW,T.cell];simpa using bi
   ·
    have i0:i=22:=by simpa using al
    subst i0;obtain⟨A,aw,hs,ay⟩:=aS.f ad;subst aw ay;refine⟨_,Kd,λK hK=>?_⟩;rw[if_pos (by rfl)];go_simp;refine hK _ _ (λ_=>z _) ?_
    try simp only
    have t:=bs (.cells #[.slice A 1 1] 49);obtain⟨A2,B,bP,_⟩:=t.f ad;injection B with B _ _;subst B;have T:=ao.new w 49 #[.slice A 1 1];refine aq a 3 br ad ad _ _ _ _ _ _ _ _ _ _ E _ (C _) (bO.ak (J _)) ⟨λ_=>t.i ad,λ_=>t.f ad,λ_=>⟨_,rfl,rfl,λ_=>⟨w.heap.size,0,_,rfl,⟨af,by rw[U];omega,λh=>by have:=(bO.e _ h).2;omega⟩,D.bw.2 (fE.2 ⟨A,1,1,rfl,Lz _,bP⟩),λj v bi=>?_⟩⟩⟩;rw[LW,T.cell];simpa using bi
   .simp at al
namespace Dr
theorem fO(h:p:=by
 refine ck ?_;generalize hX:World.setCell _ _ _=Z;obtain⟨bt,ba,bf⟩:=bs (w:=w) [.slice cp gn c1,.slice A2 (own u.af).length (own u.af).length,.slice cD 1 1,.int .i64 0] (by rfl) j.2.2.2.2.1 j.2.2.2.2.2 ad hX;have bh:=ah ba bf;clear hX ba bf bp aM aV;obtain⟨bp,aM,aV⟩:=bt.two;clear bt;go_wp2_with(fail);refine Mf (v:=.agg #[.slice cp gn c1,.slice A2 (own u.af).length (own u.af).length,.slice cD 1 1,.int .i64 0]) (by simp[results,Tryz.results72,go_sem,bp]) rfl ?_;have cT:=bh.2.size;have cu:u.globals.length=gn:=by have:=(ag.2.2).at_.g.1;rw[LG] at this;exact this
 have aZ:∀b,W.heap.size<=b->b<V.heap.size->Z.heap[b]?=V.heap[b]?:=λb ac ax=>bh.2.block b ax ad;have hm:∀b,W.heap.size<=b->b<V.heap.size->(False\/(w.heap.size<=b/\b<Z.heap.size)):=λb ac ax=>.inr ⟨ad,ad⟩;have an:=j.1.ak (ab:=Z) λb O=>aZ b (j.2.1 b O).1 (j.2.1 b O).2;rw[F7];have bC:dn u u.main [] []=⟨u.main,0,List.replicate L 0,[]⟩:=by unfold dn;rw[cz.2.1];simp
 rw[bC];exact⟨⟨cp,gn,c1,A2,(own u.af).length,(own u.af).length,cD,1,1⟩,rfl,⟨⟨an.sl (cI _) (by rw[LG];exact cu) λb O=>hm b (j.2.1 b O).1 (j.2.1 b O).2,(j.2.2.1.ak λb O=>aZ b O.1 O.2.1).mono λb O=>hm b O.1 O.2.1,(j.2.2.2.1.ak λb O=>aZ b O.1 O.2.1).mono λb O=>hm b O.1 O.2.1⟩,an.cap,Lz _,Lz _⟩,bh.1⟩
 ):p:=h
theorem nw(h:p:=by
 have ag:=aA aF cB (cc.on aF);have cS:=aF.size;have dy:=cB.lt;have bv:=(aF.cell cz.2.2.1 λh=>h).trans cz.2.2.2;have bk:pb<W.heap.size:=LC cz.2.2.1 aF.size;obtain⟨a0,ak,af⟩:=aS.two;obtain⟨ws,ns⟩:∃ws,ws=W.heap.size:=⟨_,rfl⟩
 have ch:w.heap.size<ws:=ad;have c0:pb<ws:=ad;have bb:=ae ns;clear bd aF aS cB ns;refine tw (λk=>¬k<ws) [24] (.free 1 (.held 2 (.free 4 (.held 5 (.free 9 (.held 10 (.free 11 (.held 12 (.free 13 (.held 14 (.free 15 (.free 16 (.held 17 (gY 8 0 0)))))))))))))) ?_;refine tf ?_;refine oV ?_;refine tf ?_;refine oV ?_;refine tf ?_;refine oV ?_;refine tf ?_;refine oV ?_;refine tf ?_;refine oV ?_
 iterate 2 refine tf ?_
 refine oV ?_;have bi:Ext W W.drew:=(Fr.refl _ W).drew;refine Ga (W:=W) (gs:=u.globals) (gn:=gn) (gc:=gc) (mn:=mn) (mc:=mc) (L:=L) (ws:=ws) (GA:=GA) (MA:=MA) (mi:=u.main) (X:=u.af) (p0:=?K6) (a0:=?KN) (p3:=?Le) (a3:=?KV) (p6:=?Ls) (a6:=?Lm) (p7:=?Lf) (a7:=?KW) (p8:=?Lg) (a8:=?KX) (p18:=?K9) (a18:=?KQ) (p19:=?La) (a19:=?KR) (p20:=?Lb) (a20:=?KS) (p21:=?Lc) (a21:=?KT) (p22:=?Ld) (a22:=?KU) ?hG vz ?hM ?hX cH ?ns ?o0 ?o3 ?o6 ?o7 ?o8 ?J9 ?Ka ?Kb ?Kc ?Kd ?ia 8 0 0 ad ad ad undef undef undef undef undef undef undef undef undef undef [] W.drew bi ?sA ?sB
 case hG=>exact ag.2.2.at_.g
 case hM=>exact ag.2.2.at_.m.qx
 case hX=>exact cz.1.ok.zH
 case ns=>have:=bb.o;omega
 case o0=>rfl
 case o3=>rfl
 case o6=>rfl
 case o7=>rfl
 case o8=>rfl
 case J9=>rfl
 case Ka=>rfl
 case Kb=>rfl
 case Kc=>rfl
 case Kd=>rfl
 case sA=>exact⟨.inl ⟨rfl,rfl,.inl ⟨rfl,rfl,rfl,rfl⟩⟩,λh=>ad,λh=>ad,λk aj=>by simp at aj⟩
 case sB=>exact⟨λh=>ad,λh=>ad,λh=>ad⟩
 case ia=>
  intro bx v6 bq v10 v11 q s y G N E V bo bO aS;obtain⟨cp,c1,F,rfl,r,I⟩:∃A c F,v6=.slice A gn c/\Own V 3 1 A gn c (u.globals.map dq) F/\∀k∈F,W.heap.size<=k/\k<V.heap.size:=by
   rcases bO.g with⟨h,_⟩|⟨h,_⟩|⟨_,_,F,h,hF⟩
   .omega
   .omega
   .rcases h with⟨h,_⟩|⟨h,_⟩|⟨_,A,c,ac,ax⟩
    .omega
    .omega
    .exact⟨A,c,F,ac,ax,hF⟩
  obtain⟨A2,rfl,aX⟩:=bO.t ad;obtain⟨cD,rfl,aT⟩:=aS.h ad;have m:=ag.2.1.aj bo;have U:=ag.1.trans bo;have dj:=bo.size;have j:=dI r I aX aT m U;obtain⟨bp,aM,aV⟩:=m.two;clear r I aX aT m U bO aS bo a0 ak af bv;refine tf ?_;exact gr
 ):p:=h
end Dr
open Dr in
theorem Km(u:aw)(w:World)(p:UV)(hU:yH u)(hu:p.Ok w u) :
  Calls prog 72 #[.agg (p.val u)] w (I3 (λ_=>False) w (eV u)):=by
 obtain⟨GA,gn,gc,MA,mn,mc,PA,pn,pc⟩:=p;obtain⟨dV,bQ,cF,aY,bY⟩:=hU.ok.main;have dA:=hU.ok.procs dV (LF cF);have cy:=dA.ints;have vz:gn<=100000:=by have ac:=hu.at_.g.1;have ax:=hU.ok.qA;rw[LG] at ac;have a1:u.globals.length=gn:=ac;omega
 have bk:=hu.at_.p.1;rw[LG] at bk;simp only at bk;have b7:=(List.getElem?_eq_some_iff.1 cF).1;obtain⟨pb,gW,cQ,S,cx,br,e,dT,ci,b1,cn,cm,bv,cJ,_,_⟩:=hu.at_.proc (k:=u.main.toNat) (by show u.main.toNat<pn;omega);simp only at e;subst e;rw[cF] at ci;injection ci with ci;subst ci;obtain⟨L,aI⟩:=LH (a:=dV.locals) ad;rw[aI] at bv;have cH:L<=100000:=ad;have cK:u.main<(pn:Int):=ad;have bL:fa u u.main=L:=by unfold fa;rw[cF];simp[aI]
 have cz:=bA hU bL dT bv;have cc:=ae hu;clear hU cF aY bY dA cy hu bk b7 b1 cn cm bv cJ aI bL;dsimp only[UV.val];go_enter func72,ntmps72;exact nv
structure RO(P:Nat->Prop)(B:Nat)(w:World)(s:ai)(k:Nat)(fs:List an)(f:an)(N:Nat)(q:SV)(O lb lc:Nat)(hx cG:List Value)(IA:Mk)(ic:Nat)(bB:Mk)(aE:Nat)(F1 F2 bc:List Nat):Prop where
 th:s.threads[k]?=some (fs++[f])
 gl:q.gn=s.globals.length
 tl:q.tn=s.table.length
 hl:q.hn=s.threads.length
 g:Own w 3 1 q.GA q.gn q.gc (s.globals.map dq) F1
 t:Own w 95 2 q.TA q.tn q.tc (s.table.flatMap cb) F2
 h:Own w 49 1 q.HA q.hn q.hc hx [O]
 mW:q.HA=some ⟨O,0,none⟩
 rj:∀j cP,j≠k->s.threads[j]?=some cP->∃u,hx[j]?=some u/\(mS cP).rep w P [u]
 zG:hx[k]?=some (.slice (some ⟨lb,0,none⟩) (fs.length+1) lc)
 l:Own w 99 4 (some ⟨lb,0,none⟩) (fs.length+1) lc (cG++[.int .i64 f.proc,.int .i64 f.pc,.slice IA f.ints.length ic,.slice bB f.ax.length aE]) [lb]
 fr:D.aO w P (fs.map gJ) cG
 lk:Sl w P bB f.ax.length (f.ax.map D.i)
 Hx:f.ax.length<=aE
 i:Own w 3 1 IA f.ints.length ic (f.ints.map dq) bc
 o:ao w N 30 (q.val s)
 nd:(N::O::lb::(F1++(F2++bc))).Nodup
 lo:∀b∈N::O::lb::(F1++(F2++bc)),B<=b/\b<w.heap.size
 pb:∀b,P b->b<B
def I4(P:Nat->Prop)(w:World)(s:ai)(k:Nat)(fs:List an)(f:an)(e:Ending)(ab:World):Prop:=∃q O lb lc hx cG IA ic bB aE F1 F2 bc,e=.returned (.agg (q.val s))/\Ext w ab/\
 ∀V N,Ext ab V->ao V N 30 (q.val s)->ab.heap.size<=N->RO P w.heap.size V s k fs f N q O lb lc hx cG IA ic bB aE F1 F2 bc
namespace Ds
theorem fO(h:p:=by
 refine ck ?_;generalize hX:World.setCell _ _ _=X;obtain⟨bS,b6⟩:=kO 0 [.slice cp gn c1,.slice A2 tn c2,.slice cD hn c3,.int .i64 s.fault] al hX;have bC:ao X N 30 #[.slice cp gn c1,.slice A2 tn c2,.slice cD hn c3,.int .i64 s.fault]:=bS;have bl:∀k∈F1++(F2++bI),k≠N:=by
  have:=eJ (A:=F1++(F2++bI)) (B:=[]) (x:=N) (by simpa using aK);simpa using this
 have ct:∀k,k∈F1++(F2++bI)->k∈F1++(F2++(bI++[N])):=λk aj=>by
  simp only[LL] at aj ⊢;rcases aj with aj|aj|aj
  .exact .inl aj
  .exact .inr (.inl aj)
  .exact .inr (.inr (.inl aj))
 have aC:∀k∈F1++(F2++bI),X.heap[k]?=V.heap[k]?:=λk aj=>b6.block k (bm k (ct k aj)).2 (bl k aj);have bz:Ext W X:=Fr.low (M:=λb=>b=N) (Fr.trans (Fr.mono bo λ_ h=>h.elim) b6) λb O=>by rw[O];exact cu.1
 have aR:=hj (r.ak λk aj=>aC k (by simp[aj])) (aX.ak λk aj=>aC k (by simp[aj])) (aT.ak λk aj=>aC k (by simp[aj])) bC aK (λk aj=>(⟨(bm k aj).1,by have:=(bm k aj).2;have:=b6.size;omega⟩:W.heap.size<=k/\k<X.heap.size)) bz;obtain⟨a0,ak,af⟩:=(ag.2.1.aj bz).two;have aN:Ext w X:=ag.1.trans bz;have n:∀b,P b->X.heap[b]?=w.heap[b]?:=λb O=>aN.block b (bM.2.1 b O) λh=>h;obtain⟨dr,dS,c8,FA,m,fc,co,T,au,df,cG,bP⟩:=bM.1.at_.h.vn (k:=t.toNat) (by show t.toNat<hn;omega);simp only at co;subst co;have dv:c8=fs++[f]:=by have:=bM.2.2.2.1;rw[au] at this;injection this
 subst dv;obtain rfl:m=fs.length+1:=by have:=bP.1;simpa using this.symm
 have dF:=(aN.cell (j:=dS+t.toNat) (bM.2.1 _ T) λh=>h).trans df;have c6:=bP.ak n;have cF:dr<X.heap.size:=by have:=bM.2.1 _ T;have:=aN.size;omega
 have cI:∀d∈(fs++[f]).map gJ,d.sz=4:=λd hd=>by obtain⟨x,_,rfl⟩:=L5.1 hd;rfl
 obtain⟨dN,b4,aw⟩:=Sl.src (z:=4) c6 cI;rw[LJ] at b4;obtain⟨bk,cQ,rfl,bO,aG⟩:=D.ke b4;obtain⟨IA,ii,ic,bB,dL,aE,rfl,aL,aY,bU,b0⟩:=gu.1 (D.bw.1 aG);have dm:bk.length=fs.length*4:=by rw[D.hA _ _ bO,D.g5 (z:=4) (λd hd=>by obtain⟨x,_,rfl⟩:=L5.1 hd;rfl),LG]
 obtain rfl:ii=f.ints.length:=by have:=bU.1;simpa using this.symm
 obtain rfl:dL=f.ax.length:=by have:=b0.1;simpa using this.symm
 have dB:=ca.2.2.2;have bj:FA=none->fs.length+1=0:=λh=>by subst h;exact c6.none_
 have hIn:IA=none->f.ints.length=0:=λh=>by subst h;exact bU.none_
 have cM:cA (EF cd) 1 X X.heap.size IA f.ints.length f.ints:=(bU.mono (cW:=av X) λb O=>by have:=bM.2.1 b O;have:=aN.size;show b<X.heap.size;omega).ints;have bF:=dI bO b0 aY cM aN dm;have bD:=aA aw bj hIn;obtain⟨aD,ci,a5,dA,cv,cx,cC⟩:=aR.2.2.1.block ad;subst ci;have c5:=bA a5 cv cx cC;clear e0 a6 aQ hX bS b6 bC bl ct aC r aX aT al aK bm bo au T df bP n cI b4 aG bO b0 bU aL aY cM aw bj hIn aN bz a5 cv cx cC c6 cG;go_upto_region 3 with(at_builtin;refine gi _ xX (by rfl) (.tmp 22) (.tmp 28) (by rfl) (by rfl) _ _ _ _ (by rfl) bD.1 ad ad bD.2.1 ?_;intro dC cc aP ay bX;have H1:=ah ay bX;clear ay bX);have cg:=H1.2.size;obtain⟨lb,dh,dg,bQ,cJ,dk,cK⟩:=iv H1.1 ad;subst dh;have d2:aP.cell? ⟨lb,fs.length*4+2,none⟩=some (.slice IA f.ints.length ic):=cJ _ _ (by rw[<-bF.2.2.2.2.2,List.getElem?_append_right ad,Nat.add_sub_cancel_left];rfl);have bY:Src aP 1 IA f.ints.length (f.ints.map dq):=by
  have:=Src.lT (bF.2.2.2.1.cS H1.2 H1.2.size) (ho _) (m0 _) ad
  rwa [uq] at this
 have b2:=aA bY dg cK;have cL:=dk;clear bY cK cJ;go_upto_region 4 with(at_builtin;refine gi _ cU (by rfl) (.tmp 34) (.tmp 41) (by rfl) (by rfl) _ _ _ _ (by rfl) b2.1 ad ad bD.2.2 ?_;intro ds cH aW S bg;have bZ:=ah S bg;obtain⟨f0,dQ,eW⟩:aW.cell? ⟨lb,fs.length*4+2,none⟩=some (.slice IA f.ints.length ic)/\(∀j,aW.frozen? ⟨lb,j,none⟩=false)/\lb<aW.heap.size:=⟨((Fr.of (M:=λ_=>False) bg).cell bQ λh=>h).trans d2,λj=>((Fr.of (M:=λ_=>False) bg).frozen bQ λh=>h).trans (cL j),LC bQ bg.size⟩;clear S bg);generalize cq:World.setCell _ _ _=Y;obtain⟨dw,bT,-,-,-,-,bW⟩:=iv (bR H1.1 bZ.2) ad;obtain rfl:lb=dw:=by simpa using bT
 have dc:Y.ownsRow X.heap.size 99 4 (.slice (some ⟨lb,0,none⟩) (fs.length+1) cc) (fs.length+1) ((bk++[Value.int .i64 f.proc,.int .i64 f.pc,.slice IA f.ints.length ic,.slice bB f.ax.length aE]).set (fs.length*4+2) (.slice ds f.ints.length cH)):=by
  rw[<-cq];exact bW _ _ ad
 have ar:Fr (λb=>b=lb) aW Y:=cq▸(Fr.refl (λb=>b=lb) _).setCell (.inl rfl) _;have cY:Ext X Y:=Fr.low (M:=λb=>b=lb) (Fr.trans (Fr.trans (Fr.of H1.2) (Fr.of (Below.mono bZ.2 (Lz _)))) ar) λb O=>by rw[O];exact b2.2.1
 have bH:∀b∈bx ds f.ints.length cH,aP.heap.size<=b/\b<aW.heap.size:=λb O=>bZ.1.lt b (by simpa using O);have da:Own Y 3 1 ds f.ints.length cH (f.ints.map dq) (bx ds f.ints.length cH):=Own.ak (w:=aW) ⟨iR bZ.1 (L3 _),rfl⟩ λb O=>ar.block b (bH b O).2 (aB (bH b O));have cn:∀b∈bx ds f.ints.length cH,aP.heap.size<=b/\b<Y.heap.size:=λb O=>⟨(bH b O).1,LC (bH b O).2 ar.size⟩
 have cX:=aR.2.2.1.aj cY;have bq:=aR.2.2.2.1.aj cY;obtain⟨e0,a6,aQ⟩:=bq.two;have b3:hx.length=hn:=by
  rw[D.hA _ _ bM.2.2.2.2.1,D.g5 (z:=1) (λd hd=>by obtain⟨x,_,rfl⟩:=L5.1 hd;rfl),LG,Nat.mul_one];exact ca.2.2.1
 obtain⟨aS,am,-,dp,bK,cj,bL⟩:=cX.block ad;obtain rfl:aD=aS:=by simpa using am
 obtain⟨dM,dl⟩:∃u,hx[t.toNat]?=some u:=⟨_,List.getElem?_eq_getElem ad⟩
 have cT:=bK t.toNat dM dl;have dK:lb<Y.heap.size:=LC eW ar.size;have dE:=cY.size;have dH:=b2.2.1;have aO:=rE dc cY da cn cX bq b3 bL;clear dl cq bT bW dc ar cY bH da cn cX bq am bK bL f0 dQ d2 cL b3;go_upto_region 5 with(fail);generalize bG:World.setCell _ _ _=Z;have aK:=aR.2.2.2.2.1;have ab:=aR.2.2.2.2.2.1;rw[c5.1] at aK ab;have bl:∀b∈F1++F2++[N],b≠aD:=eJ (A:=F1++F2) (B:=[N]) (x:=aD) (by simpa using aK);have c9:Own Z 49 1 (some ⟨aD,0,none⟩) hn c3 (hx.set t.toNat (.slice (some ⟨lb,0,none⟩) (fs.length+1) cc)) bI:=bG▸aO.2.2.2.2.2.2.2 t.toNat _ ad;have a2:Fr (λb=>b=aD) Y Z:=bG▸(Fr.refl (λb=>b=aD) _).setCell (.inl rfl) _;have c0:∀b,b<X.heap.size->b≠aD->Z.heap[b]?=X.heap[b]?:=λb O hn=>(a2.block b (LC O aO.2.1.size) hn).trans (aO.2.1.block b O λh=>h);have dx:=aR.1.ak λb O=>c0 b (ab b (by simp[O])).2 (bl b (by simp[O]));have de:=aR.2.1.ak λb O=>c0 b (ab b (by simp[O])).2 (bl b (by simp[O]));have L:(bk++[Value.int .i64 f.proc,.int .i64 f.pc,.slice IA f.ints.length ic,.slice bB f.ax.length aE]).set (fs.length*4+2) (.slice ds f.ints.length cH)=bk++[Value.int .i64 f.proc,.int .i64 f.pc,.slice ds f.ints.length cH,.slice bB f.ax.length aE]:=by
  have:=bF.2.2.2.2.2;rw[List.set_append_right _ _ ad,this,Nat.add_sub_cancel_left];rfl
 have dd:Own Z 99 4 (some ⟨lb,0,none⟩) (fs.length+1) cc (bk++[Value.int .i64 f.proc,.int .i64 f.pc,.slice ds f.ints.length cH,.slice bB f.ax.length aE]) [lb]:=by
  rw[<-L];exact Own.ak (w:=Y) ⟨iR aO.1 (L3 _),rfl⟩ λb O=>a2.block b (aB (Ma.1 O)) (aB (Ma.1 O))
 have cn:=aO.2.2.2.1;have db:=aO.2.2.1.ak λb O=>a2.block b (cn b O).2 (aB (cn b O));have bt:=aO.2.2.2.2.2.1.on a2 (bl N (by simp));have bu:Ext W Z:=Fr.low (M:=λb=>b=aD) (Fr.trans (Fr.mono (aR.2.2.2.2.2.2.trans aO.2.1) λ_ h=>h.elim) a2) λb O=>by rw[O];exact(ab aD (by simp)).1
 have bc:=ag.2.2.1.aj bu;have ba:Ext w Z:=ag.1.trans bu;have y:∀b∈aD::lb::(F1++(F2++bx ds f.ints.length cH)),W.heap.size<=b/\b<Z.heap.size:=by
  have ac:=aR.2.2.2.2.2.2.size;have ax:=a2.size;intro b O;rcases LS.1 O with O|O
  .have:=ab aD (by simp);omega
  rcases LS.1 O with O|O
  .omega
  rcases LL.1 O with O|O
  .have:=ab b (by simp[O]);omega
  rcases LL.1 O with O|O
  .have:=ab b (by simp[O]);omega
  .have:=cn b O;omega
 have bf:(aD::lb::(F1++(F2++bx ds f.ints.length cH))).Nodup:=by
  have dz:(F1++F2).Nodup:=by have:=aK;rw[<-List.append_assoc] at this;exact(List.nodup_append.1 this).1
  have cO:(F1++F2++bx ds f.ints.length cH).Nodup:=List.nodup_append.2 ⟨dz,fb _ _ _,λa br b O h=>by
   have a1:=cn b O;have aU:a<X.heap.size:=(ab a (by rcases LL.1 br with h|h<;>simp[h])).2;omega⟩
  rw[LQ] at cO;refine List.nodup_cons.2 ⟨λh=>?_,List.nodup_cons.2 ⟨λh=>?_,cO⟩⟩
  .rcases LS.1 h with O|O
   .omega
   rcases LL.1 O with O|O
   .exact bl aD (by simp[O]) rfl
   rcases LL.1 O with O|O
   .exact bl aD (by simp[O]) rfl
   .have:=cn aD O;omega
  .rcases LL.1 h with O|O
   .have:=ab lb (by simp[O]);omega
   rcases LL.1 O with O|O
   .have:=ab lb (by simp[O]);omega
   .have:=cn lb O;omega
 have b3:=aO.2.2.2.2.2.2.1;obtain⟨e0,a6,aQ⟩:=bt.two;obtain⟨bp,aM,aV⟩:=bc.two;have bh:=As dx de c9 dd db bc ba y bf b3;clear bG aK ab bl c9 a2 c0 dx de L dd cn db bt bu bc ba y bf b3 cT cj;go_wp2_with(fail);generalize hU:World.setCell _ _ _=U;obtain⟨cV,cl,bE⟩:=bs (w:=w) [.slice cp gn c1,.slice A2 tn c2,.slice (some ⟨aD,0,none⟩) hn c3,.int .i64 s.fault] (by rfl) bh.2.2.2.2.2.1 bh.2.2.2.2.2.2.1 ad hU;have cz:=ah cl bE;clear hU cl bE e0 a6 aQ bp aM aV;obtain⟨bp,aM,aV⟩:=cV.two;refine Mf (v:=.agg #[.slice cp gn c1,.slice A2 tn c2,.slice (some ⟨aD,0,none⟩) hn c3,.int .i64 s.fault]) (by simp[results,Tryz.results42,go_sem,bp]) rfl ?_;obtain⟨hG,hT,hH,bw,hI,-,-,y,bf,b3⟩:=bh.o;refine⟨⟨cp,gn,c1,A2,tn,c2,some ⟨aD,0,none⟩,hn,c3⟩,aD,lb,cc,hx.set t.toNat (.slice (some ⟨lb,0,none⟩) (fs.length+1) cc),bk,ds,cH,bB,aE,F1,F2,bx ds f.ints.length cH,rfl,cz.1,λV dD bo b5 dG=>?_⟩;have bE:=cz.2;have c7:=bE.size;have dj:=bo.size;have dn:∀b,W.heap.size<=b->b<Z.heap.size->V.heap[b]?=Z.heap[b]?:=λb ac ax=>(bo.block b ad λh=>h).trans (bE.block b ax ad);have cZ:∀b,P b->V.heap[b]?=w.heap[b]?:=λb O=>(cz.1.trans bo).block b (bM.2.1 b O) λh=>h;have di:∀b,P b->V.heap[b]?=X.heap[b]?:=λb O=>(cZ b O).trans (bF.2.2.2.2.1.block b (bM.2.1 b O) λh=>h).symm;have aZ:∀b∈aD::lb::(F1++(F2++bx ds f.ints.length cH)),V.heap[b]?=Z.heap[b]?:=λb O=>dn b (y b O).1 (y b O).2;have a5:=c5.1;have dt:t.toNat<hx.length:=ad
 refine {th:=bM.2.2.2.1,gl:=ca.1.symm,tl:=ca.2.1.symm,hl:=ca.2.2.1.symm,g:=hG.ak λb O=>aZ b (by simp[O]),t:=hT.ak λb O=>aZ b (by simp[O]),h:=?_,mW:=rfl,rj:=λj cP bi b1=>?_,zG:=by simp[dt],l:=bw.ak λb O=>aZ b (by simp[Ma.1 O]),fr:=D.bU di _ _ bF.1,lk:=bF.2.1.ak di,Hx:=bF.2.2.1,i:=hI.ak λb O=>aZ b (by simp[O]),o:=b5,nd:=?_,lo:=λb O=>?_,pb:=bM.2.1}
 .rw[<-a5];exact hH.ak λb O=>aZ b (by rw[a5] at O;simp[Ma.1 O])
 .obtain⟨cs,a9,cN,cf⟩:=D.px (z:=1) bM.2.2.2.2.1 (λd hd=>by obtain⟨x,_,rfl⟩:=L5.1 hd;rfl) (k:=j) (d:=mS cP) (by rw[List.getElem?_map,b1];rfl);obtain⟨u,rfl⟩:=List.length_eq_one_iff.1 cN;have h0:=cf 0 u rfl;simp only[Nat.mul_one,LM] at h0;exact⟨u,by rw[List.getElem?_set_ne (λh=>bi h.symm)];exact h0,D.aP cZ _ _ a9⟩
 .exact List.nodup_cons.2 ⟨λh=>by have:=y dD h;omega,bf⟩
 .rcases LS.1 O with O|O
  .subst O;exact⟨ad,b5.lt⟩
  .have:=y b O;omega
 ):p:=h
end Ds
open Ds in
theorem Gj(P:Nat->Prop)(s:ai)(t:Int)(fs:List an)(f:an)(q:SV)(w:World)(h:q.Is w P s)(be:∀b,P b->b<w.heap.size)(b7:Small s)(c4:0<=t)(bv:s.threads[t.toNat]?=some (fs++[f])) :
  Calls prog 42 #[.agg (q.val s),.int .i64 t] w (I4 P w s t.toNat fs f):=by
 obtain⟨GA,gn,gc,TA,tn,tc,HA,hn,hc⟩:=q;have b8:=h.ok be;have cu:s.globals.length=gn:=by have ac:=h.at_.g.1;rw[LG] at ac;exact ac
 have cw:s.table.length=tn:=by have ac:=h.at_.t.1;rw[LG] at ac;exact ac
 have cm:s.threads.length=hn:=by have ac:=h.at_.h.1;rw[LG] at ac;exact ac
 have vz:gn<=100000:=by have:=b7.g;omega
 have vA:tn<=100000:=by have:=b7.t;omega
 have uz:hn<=100000:=by have:=b7.h;omega
 have du:t<(hn:Int):=by have:=(List.getElem?_eq_some_iff.1 bv).1;omega
 have cr:=(b7.f _ (LF bv)).1;rw[LD] at cr;simp only[LP,LX] at cr;have cE:=(b7.f _ (LF bv)).2 f (by simp);obtain⟨hx,az,ce⟩:=Sl.src (z:=1) h.at_.h (λd hd=>by obtain⟨x,_,rfl⟩:=L5.1 hd;rfl);have bM:=dI h be b8 bv az ce;have ca:=bA cu cw cm cE;clear h be b8 bv az ce cu cw cm b7 cE;dsimp only[SV.val];go_enter func42,ntmps42;go_upto_region 1 with(fail);generalize bd:World.alloc _ _=W;have aF:=hi bd;have bV:=fx bd;have cB:=eX bd;have ag:=bA aF bV cB (bM.2.2.1.on aF);have cS:=aF.size;have dy:=cB.lt;obtain⟨a0,ak,af⟩:=bV.two;obtain⟨ws,ns⟩:∃ws,ws=W.heap.size:=⟨_,rfl⟩
 have ch:w.heap.size<ws:=ad;have bb:=ae ns;clear bd aF bV cB ns;refine tw (λb=>¬b<ws) [16] (.free 1 (.held 2 (.free 5 (.held 6 (.free 9 (.held 10 (.free 12 (.held 13 (ju 8 0 0 0 false))))))))) ?_;refine tf ?_;refine oV ?_;refine tf ?_;refine oV ?_;refine tf ?_;refine oV ?_;refine tf ?_;refine oV ?_;refine FG (W:=W) (s:=s) (gn:=gn) (tn:=tn) (hn:=hn) (gc:=gc) (tc:=tc) (hc:=hc) (GA:=GA) (TA:=TA) (HA:=HA) (hx:=hx) (ws:=ws) (p0:=?K6) (a0:=?KN) (p3:=?Le) (a3:=?KV) (p4:=?Lr) (a4:=?Ll) (p7:=?Lf) (a7:=?KW) (p8:=?Lg) (a8:=?KX) (p11:=?K7) (a11:=?KO) (p15:=?K8) (a15:=?KP) (t15:=?Lh) (aa:=(λbn bJ v10 v11 aH aJ aI=>⟨#[.agg #[.slice GA gn gc,.slice TA tn tc,.slice HA hn hc,.int .i64 s.fault],.int .i64 t,.pointer (some ⟨w.heap.size,0,none⟩),undef,.pointer (some ⟨w.heap.size+1,0,none⟩),bn,undef,bJ,.pointer (some ⟨w.heap.size,0,none⟩),.slice GA gn gc,v10,v11,.pointer (some ⟨w.heap.size,1,none⟩),.slice TA tn tc,aH,aJ,.pointer (some ⟨w.heap.size,2,none⟩),.slice HA hn hc,aI,.pointer (some ⟨w.heap.size,3,none⟩),.int .i64 s.fault,undef,undef,undef,undef,undef,undef,undef,undef,undef,undef,undef,undef,undef,undef,undef,undef,undef,undef,undef,undef,undef,undef,undef,undef,undef,undef,undef,undef,undef,undef,undef],[]⟩)) ?hG ?hT ?hH ?J4 ?vz ?vA ?uz ?ns ?o0 ?o3 ?o4 ?o7 ?o8 ?J7 ?J8 ?q5 ?q7 ?Fp ?JE ?Ki ?Kj ?Kk ?e7 ?e9 ?JX ?JY ?JZ ?J0 ?ia 8 0 0 0 false ?n1 ?n2 ?n3 ?n4 ?n5 ?n6 undef undef undef undef undef undef undef [] [] [] [] W.drew ?start
 case hG=>exact ag.2.2.2.at_.g
 case hT=>exact ag.2.2.2.at_.t
 case hH=>exact bM.2.2.2.2.2.on (Fr.ext ag.1)
 case J4=>exact λh=>by subst h;exact ag.2.2.2.at_.h.none_
 case vz=>exact vz
 case vA=>exact vA
 case uz=>exact uz
 case ns=>have:=bb.o;omega
 case o0=>rfl
 case o3=>rfl
 case o4=>rfl
 case o7=>rfl
 case o8=>rfl
 case J7=>rfl
 case J8=>rfl
 case q5=>intro _ _ _ _ _ _ _ _;rfl
 case q7=>intro _ _ _ _ _ _ _ _;rfl
 case Fp=>intro _ _ _ _ _ _ _ _;rfl
 case JE=>intro _ _ _ _ _ _ _ _;rfl
 case Ki=>intro _ _ _ _ _ _ _ _;rfl
 case Kj=>intro _ _ _ _ _ _ _ _;rfl
 case Kk=>intro _ _ _ _ _ _ _ _;rfl
 case e7=>intro _ _ _ _ _ _ _;rfl
 case e9=>intro _ _ _ _ _ _ _;rfl
 case JX=>intro _ _ _ _ _ _ _;rfl
 case JY=>intro _ _ _ _ _ _ _;rfl
 case JZ=>intro _ _ _ _ _ _ _;rfl
 case J0=>intro _ _ _ _ _ _ _;rfl
 case n1=>omega
 case n2=>omega
 case n3=>omega
 case n4=>omega
 case n5=>omega
 case n6=>simp
 case start=>exact⟨Mg.drew,.inl ⟨rfl,rfl,rfl,rfl⟩,.inl ⟨rfl,rfl,rfl,rfl⟩,.inl ⟨rfl,rfl,rfl,rfl⟩,.inl ⟨rfl,rfl,rfl⟩,by simp,λk aj=>by simp at aj⟩
 case ia=>
  intro b bn bJ v10 v11 aH aJ aI F1 F2 bI b9 V hC;obtain⟨cp,c1,rfl,r⟩:∃A c,v10=.slice A gn c/\Own V 3 1 A gn c (s.globals.map dq) F1:=by
   rcases hC.g with⟨h,_⟩|⟨h,_⟩|⟨_,h⟩
   .cases h
   .cases h
   .exact h
  obtain⟨A2,c2,rfl,aX⟩:∃A c,aH=.slice A tn c/\Own V 95 2 A tn c (s.table.flatMap cb) F2:=by
   rcases hC.t with⟨h,_⟩|⟨h,_⟩|⟨_,h⟩
   .cases h
   .cases h
   .exact h
  obtain⟨cD,c3,rfl,aT⟩:∃A c,aI=.slice A hn c/\Own V 49 1 A hn c hx bI:=by
   rcases hC.h with⟨h,_⟩|⟨h,_⟩|⟨_,h⟩
   .cases h
   .cases h
   .exact h
  refine tf ?_;refine xo (P:=?P1) (ops:=?Lq) (Q:=?Lu) (R:=?Lw) (tails:=?Ly) (rest:=.pick [16] (λ_=>.stop)) (aa:=?Ln) (C:=λ(N:Nat) V=>Ext W V/\Own V 3 1 cp gn c1 (s.globals.map dq) F1/\Own V 95 2 A2 tn c2 (s.table.flatMap cb) F2/\Own V 49 1 cD hn c3 hx bI/\ao V N 30 #[.slice none 0 0,.slice none 0 0,.slice none 0 0,.int .i64 0]/\(F1++(F2++(bI++[N]))).Nodup/\∀k∈F1++(F2++(bI++[N])),W.heap.size<=k/\k<V.heap.size) (λkey=>?main) ?key
  case main=>
   rcases hC.o with⟨rfl,rfl,aU⟩|⟨rfl,N,rfl,aU,cy⟩
   .subst aU;show cR _ _ _ _ _ (.pick [15] λ_=>.pick [16] λ_=>.stop) _ _
    refine aq ?_;refine eu ?_;have ap:∀k∈F1++(F2++(bI++[])),k<V.heap.size:=λk aj=>(hC.lo k aj).2;have hD:Ext W (V.alloc (.cells #[.slice none 0 0,.slice none 0 0,.slice none 0 0,.int .i64 0] 30))/\Own (V.alloc (.cells #[.slice none 0 0,.slice none 0 0,.slice none 0 0,.int .i64 0] 30)) 3 1 cp gn c1 (s.globals.map dq) F1/\Own (V.alloc (.cells #[.slice none 0 0,.slice none 0 0,.slice none 0 0,.int .i64 0] 30)) 95 2 A2 tn c2 (s.table.flatMap cb) F2/\Own (V.alloc (.cells #[.slice none 0 0,.slice none 0 0,.slice none 0 0,.int .i64 0] 30)) 49 1 cD hn c3 hx bI/\ao (V.alloc (.cells #[.slice none 0 0,.slice none 0 0,.slice none 0 0,.int .i64 0] 30)) V.heap.size 30 #[.slice none 0 0,.slice none 0 0,.slice none 0 0,.int .i64 0]/\(F1++(F2++(bI++[V.heap.size]))).Nodup/\∀k∈F1++(F2++(bI++[V.heap.size])),W.heap.size<=k/\k<(V.alloc (.cells #[.slice none 0 0,.slice none 0 0,.slice none 0 0,.int .i64 0] 30)).heap.size:=by
     refine⟨hC.ext.alloc _,r.aj (Mg.alloc _),aX.aj (Mg.alloc _),aT.aj (Mg.alloc _),Mh,?_,λk aj=>?_⟩
     .have:=qz (F1:=F1++(F2++bI)) (F2:=[]) (by simpa using hC.nd) (by simpa using ap);simpa using this
     .rw[World.k3];have dj:=hC.ext.size;rcases hg.dr.1 aj with aj|aj|aj|aj
      .have:=hC.lo k (hg.dr.2 (.inl aj));omega
      .have:=hC.lo k (hg.dr.2 (.inr (.inl aj)));omega
      .have:=hC.lo k (hg.dr.2 (.inr (.inr (.inl aj))));omega
      .have:=Ma.1 aj;omega
    generalize V.alloc (.cells #[.slice none 0 0,.slice none 0 0,.slice none 0 0,.int .i64 0] 30)=dJ at hD ⊢;generalize V.heap.size=N at hD ⊢;exact key N dJ hD
   .subst aU;show cR _ _ _ _ _ (.pick [16] λ_=>.stop) _ _
    exact key N V ⟨hC.ext,r,aX,aT,cy,hC.nd,hC.lo⟩
  clear hC r aX aT V b;intro N V ⟨bo,r,aX,aT,al,aK,bm⟩;obtain⟨e0,a6,aQ⟩:=al.two;have cu:=bm N (by simp);clear a0 ak af;exact gr
end Go.Proofs.YtflecliffjbleaaGreat

/- Part 36 of the proof. No condition of its own. -/
import Derived.Test.YtnigabjngpnbiabGreatF29
import Derived.Test.YtnigabjngpnbiabGreatF35
namespace Go.Proofs.YtnigabjngpnbiabGreat
open Go.RowKit Go.Proofs.Tryz
set_option maxRecDepth 1000000
set_option maxHeartbeats 25600000
set_option linter.unusedVariables false
variable{p:Prop}
def yV(a b:Nat):List Nat:=(bif a == 0 then [0] else bif a == 1 then [3] else bif a == 2 then [6] else bif a == 3 then [8] else [])++(bif b == 0 then [18] else bif b == 1 then [20] else bif b == 2 then [22] else [])
def g8:Nat->Nat->Nat->PT
 | 0,_,_=>.stop
 | n+1,a,b=>bif a == 4 && b == 3 then .free 23 (.pick [24] λ_=>.stop) else .pick (yV a b) λi=>
   bif i == 0 then g8 n 1 b else bif i == 3 then g8 n 2 b else bif i == 6 then .free 7 (g8 n 3 b) else bif i == 8 then g8 n 4 b else bif i == 18 then .free 19 (g8 n a 1) else bif i == 20 then .free 21 (g8 n a 2) else g8 n a 3
abbrev xw(W w:World)(E:List Nat):Nat->Prop:=λk=>W.heap.size<=k/\k<w.heap.size/\k∉E
structure Kg(W:World)(gs:List Int)(gn m:Nat)(w:World)(a:Nat)(ai v6 bz v10 v11:Value)(E:List Nat):Prop where
 g:(a=0/\E=[]/\iK 3 1 gn (gs.map dv) w 0 ai v6 [])\/(a=1/\iK 3 1 gn (gs.map dv) w 1 ai v6 E)\/(2<=a/\E=[]/\∃F,iK 3 1 gn (gs.map dv) w 2 ai v6 F/\∀k∈F,W.heap.size<=k/\k<w.heap.size)
 o:3<=a->v10=.int .i64 (m:Int)
 t:4<=a->∃A,v11=.slice A m m/\Sl w (xw W w []) A m ((List.replicate m ⟨0,0⟩).map mq)
 e:∀k∈E,W.heap.size<=k/\k<w.heap.size
structure JX(W:World)(mi:Int)(L:Nat)(w:World)(b:Nat)(q s y G N:Value)(E:List Nat):Prop where
 i:1<=b->∃A,q=.slice A L L/\Sl w (xw W w E) A L ((List.replicate L 0).map D.i)/\s=.agg #[.int .i64 mi,.int .i64 0,.slice A L L,.slice none 0 0]
 f:2<=b->∃A,y=.slice A 1 1/\Sl w (xw W w E) A 1 ([(⟨mi,0,List.replicate L 0,[]⟩:ao)].map gP)/\G=.agg #[.slice A 1 1]
 h:3<=b->∃A,N=.slice A 1 1/\Sl w (xw W w E) A 1 ([[(⟨mi,0,List.replicate L 0,[]⟩:ao)]].map mY)
theorem Kg.ak{W:World}{gs:List Int}{gn m a:Nat}{w ab:World}{ai v6 bz v10 v11:Value}{E:List Nat}(h:Kg W gs gn m w a ai v6 bz v10 v11 E)(aF:Ext w ab):Kg W gs gn m ab a ai v6 bz v10 v11 E:=by
 have aj:∀k,k<w.heap.size->ab.heap[k]?=w.heap[k]?:=λk aj=>aF.block k aj λh=>h;have hs:=aF.size;refine⟨?_,h.o,λbg=>?_,λk aj=>⟨(h.e k aj).1,by have:=(h.e k aj).2;omega⟩⟩
 .rcases h.g with⟨ac,az,aV⟩|⟨ac,az⟩|⟨ac,az,F,aV,aU⟩
  .exact .inl ⟨ac,az,aV.ak λk aj=>by simp at aj⟩
  .exact .inr (.inl ⟨ac,az.ak λb O=>aj b (h.e b O).2⟩)
  .exact .inr (.inr ⟨ac,az,F,aV.ak λb O=>aj b (aU b O).2,λk aj=>⟨(aU k aj).1,by have:=(aU k aj).2;omega⟩⟩)
 .obtain⟨A,ac,az⟩:=h.t bg;exact⟨A,ac,(az.ak λb O=>aj b O.2.1).mono λb O=>⟨O.1,by have:=O.2.1;omega,O.2.2⟩⟩
theorem JX.ak{W:World}{mi:Int}{L b:Nat}{w ab:World}{q s y G N:Value}{E a:List Nat}(h:JX W mi L w b q s y G N E)(hs:w.heap.size<=ab.heap.size)(aj:∀k,W.heap.size<=k->k<w.heap.size->k∉E->ab.heap[k]?=w.heap[k]?/\k∉a):JX W mi L ab b q s y G N a:=by
 have ce:∀b,xw W w E b->ab.heap[b]?=w.heap[b]?:=λb O=>(aj b O.1 O.2.1 O.2.2).1;have hm:∀b,xw W w E b->xw W ab a b:=λb O=>⟨O.1,by have:=O.2.1;omega,(aj b O.1 O.2.1 O.2.2).2⟩
 refine⟨λO=>?_,λO=>?_,λO=>?_⟩
 .obtain⟨A,ac,az,aV⟩:=h.i O;exact⟨A,ac,(az.ak ce).mono hm,aV⟩
 .obtain⟨A,ac,az,aV⟩:=h.f O;exact⟨A,ac,(az.ak ce).mono hm,aV⟩
 .obtain⟨A,ac,az⟩:=h.h O;exact⟨A,ac,(az.ak ce).mono hm⟩
theorem Hd{ops:Array Oper}{Q:Exit->Act->World->Prop}{W:World}{gs:List Int}{gn gc mn mc L ws:Nat}{GA MA:NH}{mi:Int}{X:List bM}{b0 Z a9 ar aA S aa ag ah ak al ao ap:Value}{a0 a3 a6 a7 a8 a18 a19 a20 a21 a22:Array Edge}{p0 p3 p6 p7 p8 p18 p19 p20 p21 p22:String}
  (hG:Sl W (av W) GA gn (gs.map D.i)) (wi:gn<=100000) (hM:cp (EF hA) 3 W W.heap.size MA mn X) (hX:po X) (bx:L<=100000) (mL:ws<=W.heap.size)
  (o0:ops[0]?=some ⟨some 3,.buildSlice 22 0 #[],22,p0,a0,none⟩)
  (o3:ops[3]?=some ⟨some 6,.call {callee:=.builtin .append,args:=#[.tmp 3,.tmp 5],argTypes:=#[22,22]},22,p3,a3,none⟩)
  (o6:ops[6]?=some ⟨some 9,.call {callee:=.value (.func 85),args:=#[.tmp 8],argTypes:=#[23]},22,p6,a6,none⟩)
  (o7:ops[7]?=some ⟨some 10,.call {callee:=.builtin .len,args:=#[.tmp 9],argTypes:=#[22]},3,p7,a7,none⟩)
  (o8:ops[8]?=some ⟨some 11,.makeSlice 27 (.tmp 10) (.tmp 10),27,p8,a8,none⟩)
  (Lr:ops[18]?=some ⟨some 21,.makeSlice 22 (.tmp 20) (.tmp 20),22,p18,a18,none⟩)
  (Ls:ops[19]?=some ⟨some 22,.build 77 #[(0,.tmp 13),(2,.tmp 21)],77,p19,a19,none⟩)
  (Lt:ops[20]?=some ⟨some 23,.buildSlice 93 1 #[(0,.tmp 22)],93,p20,a20,none⟩)
  (Lu:ops[21]?=some ⟨some 24,.build 95 #[(0,.tmp 23)],95,p21,a21,none⟩)
  (Lv:ops[22]?=some ⟨some 25,.buildSlice 28 1 #[(0,.tmp 24)],28,p22,a22,none⟩)
  (iq:∀ai v6 bz v10 v11 q s y G N E w,Ext W w->Kg W gs gn (own X).length w 4 ai v6 bz v10 v11 E->JX W mi L w 3 q s y G N E->cY prog ops Q (Fr (λk=>¬k<ws)) [24] (.free 23 (.pick [24] λ_=>.stop)) ⟨#[b0,Z,a9,ai,ar,.slice GA gn gc,v6,aA,.slice MA mn mc,bz,v10,v11,S,mi,aa,ag,ah,ak,al,ao,L,q,s,y,G,N,ap],[]⟩ w) :
  ∀(n a b:Nat),a<=4->b<=3->8<=n+a+b->∀ai v6 bz v10 v11 q s y G N E w,Ext W w->Kg W gs gn (own X).length w a ai v6 bz v10 v11 E->JX W mi L w b q s y G N E->
   cY prog ops Q (Fr (λk=>¬k<ws)) [24] (g8 n a b) ⟨#[b0,Z,a9,ai,ar,.slice GA gn gc,v6,aA,.slice MA mn mc,bz,v10,v11,S,mi,aa,ag,ah,ak,al,ao,L,q,s,y,G,N,ap],[]⟩ w:=by
 intro n
 induction n with
 | zero=>intro a b bg O hn;omega
 | succ n aq=>
  intro a b bg O hn ai v6 bz v10 v11 q s y G N E w aF bF aT;unfold g8
  cases H:(a == 4 && b == 3) with
  | true=>
   simp only[Ng,beq_iff_eq] at H;obtain⟨rfl,rfl⟩:=H
   exact iq _ _ _ _ _ _ _ _ _ _ _ _ aF bF aT
  | false=>
  have af:=aF.size;have z:∀o:Obj,Fr (λk=>¬k<ws) w (w.alloc o):=λo=>NC.alloc o;have U:∀o:Obj,(w.alloc o).heap.size=w.heap.size+1:=λo=>World.k7 w o;have C:∀o:Obj,Ext W (w.alloc o):=λo=>aF.alloc o;have J:∀o:Obj,Ext w (w.alloc o):=λo=>NC.alloc o;have aU:∀o:Obj,JX W mi L (w.alloc o) b q s y G N E:=λo=>aT.ak (by rw[U];omega) λk _ aj hn=>⟨Below.heap_alloc w o k aj,hn⟩
  intro i aN;simp only[yV,Nc] at aN;rcases aN with aN|aN
  .have cB:a=0\/a=1\/a=2\/a=3\/a=4:=ad;rcases cB with rfl|rfl|rfl|rfl|rfl
   ·
    have i0:i=0:=by simpa using aN
    subst i0;obtain⟨m,ba⟩:E=[]/\iK 3 1 gn (gs.map dv) w 0 ai v6 []:=by
     rcases bF.g with⟨_,az,aV⟩|⟨ac,_⟩|⟨ac,_⟩
     .exact⟨az,aV⟩
     .omega
     .omega
    subst m;obtain⟨_,_,df⟩:=ba.begin rfl;refine⟨_,o0,λK hK=>?_⟩;rw[if_pos (by rfl)];refine Gm (hK _ _ (λ_=>z _) ?_)
    try simp only[PU]
    refine aq 1 b ad O ad _ _ _ _ _ _ _ _ _ _ [w.heap.size] _ (C _) ⟨.inr (.inl ⟨rfl,df⟩),λh=>ad,λh=>ad,λk aj=>?_⟩ (aT.ak (by rw[U];omega) λk _ aj hn=>⟨Below.heap_alloc w _ k aj,λh=>by have:=Nv.1 h;omega⟩);rw[U];have:=Nv.1 aj;omega
   ·
    have i0:i=3:=by simpa using aN
    subst i0;have ba:iK 3 1 gn (gs.map dv) w 1 ai v6 E:=by
     rcases bF.g with⟨ac,_⟩|⟨_,aV⟩|⟨ac,_⟩
     .omega
     .exact aV
     .omega
    refine⟨_,o3,λK hK=>?_⟩;rw[if_pos (by rfl)];refine iK.fill ba cF (.tmp 3) (.tmp 5) rfl rfl rfl (by have:=Src.l0 (hG.on (Fr.ext aF)).ints (gE _) (m7 _) ad;rwa [uW] at this) ad ad (λh=>by subst h;exact hG.none_) (λv ab Y df b1 bb r=>?_);have bX:=b1.size;have l:∀k∈E,W.heap.size<=k:=λk aj=>(bF.e k aj).1;have R:Ext W ab:=Fr.low (M:=λk=>k∈E) (Fr.trans (Fr.mono aF λ_ h=>h.elim) b1) l;refine hK _ _ (λ_=>b1.mono λk aj=>by have:=l k aj;omega) ?_
    try simp only[PU]
    refine aq 2 b ad O ad _ _ _ _ _ _ _ _ _ _ [] _ R ⟨.inr (.inr ⟨ad,rfl,Y,df,λk aj=>?_⟩),λh=>ad,λh=>ad,λk aj=>by simp at aj⟩ (aT.ak bX λk _ aj hn=>⟨b1.block k aj hn,by simp⟩);have ac:=r k aj;have:W.heap.size<=k:=by rcases ac.1 with az|az;exact l k az;omega
    omega
   ·
    have i0:i=6:=by simpa using aN
    subst i0;refine⟨_,o6,λK hK=>?_⟩;rw[if_pos (by rfl)];go_simp;refine(mD MA mn mc X w (hM.cD (Fr.ext aF) (Fr.ext aF).size) hX).mono ?_;rintro e ab ⟨I,aD,rfl,hc,hs,aZ⟩;have d:Ext w ab:=Fr.of aZ;refine hK _ _ (λ_=>Fr.mono d λ_ h=>h.elim) ?_
    try simp only
    show cY _ _ _ _ _ (.free 7 (g8 n 3 b)) _ _
    refine lO (v:=?_) o7 (by rfl) (λV=>?_) ?_;rotate_left
    ·(go_simp<;>with_reducible rfl)
    try simp only[PU]
    have am:=bF.ak d;have aR:2<=2/\E=[]/\∃F,iK 3 1 gn (gs.map dv) ab 2 ai v6 F/\∀k∈F,W<=k/\k<ab:=by
     rcases am.g with⟨ac,_⟩|⟨ac,_⟩|aV
     .omega
     .omega
     .exact aV
    exact aq 3 b ad O ad _ _ _ _ _ _ _ _ _ _ E _ (aF.trans d) ⟨.inr (.inr ⟨ad,aR.2⟩),λ_=>rfl,λh=>ad,am.e⟩ (aT.ak d.size λk _ aj hn=>⟨d.block k aj λh=>h,hn⟩)
   ·
    have i0:i=8:=by simpa using aN
    subst i0;have c:=bF.o ad;subst c;have hm:=dx hX;have ee:=λW=>run_mk (P:=prog) mN .i64 .i64 (own X).length ad ad W;have aB:=Fz (e:=138) (f:=ch) (x:=⟨0,0⟩) (zc:=#[.int .i64 0,.int .i64 0]) (sz:=2) rfl rfl ad (own X).length ad (w:=w) (base:=w.heap.size) (MU _);refine⟨_,o8,λK hK=>?_⟩;rw[if_pos (by rfl)];have a2:=ae aB;clear aB;go_simp;refine hK _ _ (λ_=>z _) ?_
    try simp only
    have am:=bF.ak (J (.cells (madeCells #[(0:Int),(0:Int)] ((own X).length*2)) 138));have aR:2<=3/\E=[]/\∃F,iK 3 1 gn (gs.map dv) (w.alloc (.cells (madeCells #[(0:Int),(0:Int)] ((own X).length*2)) 138)) 2 ai v6 F/\∀k∈F,W<=k/\k<(w.alloc (.cells (madeCells #[(0:Int),(0:Int)] ((own X).length*2)) 138)).heap.size:=by
     rcases am.g with⟨ac,_⟩|⟨ac,_⟩|aV
     .omega
     .omega
     .exact aV
    refine aq 4 b ad O ad _ _ _ _ _ _ _ _ _ _ E _ (C _) ⟨.inr (.inr ⟨ad,aR.2⟩),λ_=>rfl,λ_=>⟨_,rfl,?_⟩,am.e⟩ (aU _);exact Sl.qQ a2.o (dW _) (by simp) λg _ ac az=>⟨ad,az,by simp⟩
   .simp at aN
  .have cB:b=0\/b=1\/b=2\/b=3:=ad;rcases cB with rfl|rfl|rfl|rfl
   ·
    have i0:i=18:=by simpa using aN
    subst i0;have ee:=λW=>run_mk (P:=prog) cF .i64 .i64 L ad ad W;have aB:=Fz (e:=3) (f:=bQ) (x:=0) (zc:=#[.int .i64 0]) (sz:=1) rfl rfl ad L ad (w:=w) (base:=w.heap.size) (MU _);rw[uW,Nat.mul_one] at aB;have a2:=ae aB;clear aB;refine⟨_,Lr,λK hK=>?_⟩;rw[if_pos (by rfl)];go_simp;refine hK _ _ (λ_=>z _) ?_
    try simp only
    show cY _ _ _ _ _ (.free 19 (g8 n a 1)) _ _
    refine lO (v:=?_) Ls (by rfl) (λV=>?_) ?_;rotate_left
    ·(go_simp<;>with_reducible rfl)
    try simp only[PU]
    refine aq a 1 bg ad ad _ _ _ _ _ _ _ _ _ _ E _ (C _) (bF.ak (J _)) ⟨λ_=>⟨_,rfl,?_,rfl⟩,λh=>ad,λh=>ad⟩;exact Sl.qQ a2.o (cO _) (by simp) λg _ ac az=>⟨ad,az,λh=>by have:=(bF.e g h).2;omega⟩
   ·
    have i0:i=20:=by simpa using aN
    subst i0;obtain⟨A,au,hs,aw⟩:=aT.i ad;subst au aw;refine⟨_,Lt,λK hK=>?_⟩;rw[if_pos (by rfl)];go_simp;refine hK _ _ (λ_=>z _) ?_
    try simp only
    show cY _ _ _ _ _ (.free 21 (g8 n a 2)) _ _
    refine lO (v:=?_) Lu (by rfl) (λV=>?_) ?_;rotate_left
    ·(go_simp<;>with_reducible rfl)
    try simp only[PU]
    have t:=aU (.cells #[mi,(0:Int),.slice A L L,()] 77);obtain⟨A2,u,bO,_⟩:=t.i ad;injection u with u _ _;subst u;have T:=an.new w 77 #[mi,(0:Int),.slice A L L,()];refine aq a 2 bg ad ad _ _ _ _ _ _ _ _ _ _ E _ (C _) (bF.ak (J _)) ⟨λ_=>t.i ad,λ_=>⟨_,rfl,⟨rfl,λ_=>⟨w,0,_,rfl,⟨af,by rw[U];omega,λh=>by have:=(bF.e _ h).2;omega⟩,D.bx.2 (gz.2 ⟨A,L,L,none,0,0,rfl,MU _,MU _,bO,Sl.bY _⟩),λj v bi=>?_⟩⟩,rfl⟩,λh=>ad⟩;rw[Nm,T.cell];simpa using bi
   ·
    have i0:i=22:=by simpa using aN
    subst i0;obtain⟨A,ax,hs,ay⟩:=aT.f ad;subst ax ay;refine⟨_,Lv,λK hK=>?_⟩;rw[if_pos (by rfl)];go_simp;refine hK _ _ (λ_=>z _) ?_
    try simp only
    have t:=aU (.cells #[.slice A 1 1] 95);obtain⟨A2,B,bO,_⟩:=t.f ad;injection B with B _ _;subst B;have T:=an.new w 95 #[.slice A 1 1];refine aq a 3 bg ad ad _ _ _ _ _ _ _ _ _ _ E _ (C _) (bF.ak (J _)) ⟨λ_=>t.i ad,λ_=>t.f ad,λ_=>⟨_,rfl,rfl,λ_=>⟨w,0,_,rfl,⟨af,by rw[U];omega,λh=>by have:=(bF.e _ h).2;omega⟩,D.bx.2 (fF.2 ⟨A,1,1,rfl,MU _,bO⟩),λj v bi=>?_⟩⟩⟩;rw[Nm,T.cell];simpa using bi
   .simp at aN
namespace Ee
theorem fC(h:p:=by
 refine cj ?_;generalize cA:World.setCell _ _ _=hP;have hh:wr<=dP:=ad;obtain⟨bM,bA,bz⟩:=eg (M:=λb=>b=S.heap.size+1) [.string ((⟨#[112]⟩:ByteArray)++strOf [byteOf bv]),.bool _] (by rfl) bK ai hh cA;obtain⟨ht,bM⟩:∃ht,an hP dP 160 #[.string ((⟨#[112]⟩:ByteArray)++strOf [byteOf bv]),.bool ht]:=⟨_,bM⟩
 rw[FD ad aE.o] at bM;have iy:=ck.blk.lt;have iq:=bZ.2.2.1.lt;have a5:=cQ (aw.cZ bz λb O h=>ad) (bZ.2.1.trans bA) (bZ.2.2.1.on bA ad) (bZ.2.2.2.cD bA (λb O _=>⟨λh=>h,ad⟩)) bM;have b3:cD+1+1<=hP.heap.size:=by have:=bA.size;omega
 clear cA bM bA bz aw ai bK b0 a8 bw;obtain⟨f0,cH,dS⟩:=a5.2.2.1.two;obtain⟨b0,a8,bw⟩:=a5.2.2.2.2.two;go_wp2_with(at_builtin;refine bJ EB rfl (.tmp 167) (.tmp 169) rfl a5.2.2.2.1 (tY.2 rfl:(cC (vr m,ht)).rep hP _ _) rfl rfl rfl ad ad b3 ?_;intro ip hW hT hR bO h6 h5;have gx:=a5.2.2.1.on bO (λO=>by have:=(a5.2.2.2.1.lt O).1;omega);have gW:=ah hR bO;clear f0 cH dS hR bO h6 h5 b0 a8 bw;obtain⟨f0,cH,dS⟩:=gx.two;clear gx);generalize hX:World.setCell _ _ _=hl;have bo:∀b,(Value.slice PA pn pc).ownBlock=some b->cD.heap.size+1+1<=b:=λb O=>(a5.2.2.2.1.lt O).1;have dX:=cP hX;have bk:an hl (cD.heap.size+1) 118 #[.string (jS i),.slice ip (pn+1) hW,()]:=hX▸(a5.2.2.1.on gW.2 (λO=>by have:=bo _ O;omega)).aK 1 _;have f1:=(a5.1.cZ gW.2 λb O h=>by have:=bo b h;omega).cZ dX λb O h=>ad;have L:Fr (λb=>b=S.heap.size+1) cD hl:=(a5.2.1.eW (gW.2.below a5.2.1.size λk aj h=>by have:=bo k h;omega)).eW (dX.below (nI a5.2.1.size gW.2.size) λk aj h=>ad);have hm:=gW.1.cD dX λb O _=>⟨λh=>h,ad⟩
 have bu:=br f1 L bk hm;clear hX dX bk f1 L hm f0 cH dS bo;obtain⟨bW,al⟩:∃bW,m=bW+1:=⟨m - 1,ad⟩
 have c4:(m:Int) - 1=((bW:Nat):Int):=ad;go_roundw
 case rel=>
  refine⟨bW,ip,pn+1,hW,ps++[(vr m,ht)],by first|(rw[c4])|(congr 1)|go_num,ad,ad,λh=>ad,λh=>?_,bu.1,bu.2.1,bu.2.2.1,by rw[Na];exact bu.2.2.2⟩;have ac:=gN.2 h;rw[al] at ac;rw[al,<-ac];simp[fk]
 case measure=>exact aH
 ):p:=h
theorem Bm(h:p:=by
 generalize hc:IntKind.u8.wrap (IntKind.i64.wrap (48+(m:Int)))=bv;obtain⟨bq,hf⟩:∃bq,bq=wr.heap.size:=⟨_,rfl⟩
 have aE:=ae hc;clear hc;have hq:(strOf [byteOf bv]).size=1:=aC _;have U:=ah bZ.1 (Fr.refl (λb=>b=S.heap.size+1) wr);refine jf (P:=?_) (ops:=?_) (Q:=?_) (R:=?_) (tails:=?_) (rest:=.pick [14] (λ_=>.stop)) (aa:=?_)
  (C:=λ(a3 dP j:Nat) eX=>cu eX (S.heap.size+1) A n c l/\Fr (λb=>b=S.heap.size+1) wr eX/\an eX dP 160 #[NF,false]/\bq<=dP/\j<3) (λkey=>?_) ?_
 rotate_left 6
 ·
  refine rr ?_ ?_ ?_
  ·
   refine ep ?_;refine bf (λV=>Ext wr V/\an V wr 5 #[.int .u8 bv]) ⟨(NC.alloc _).drew,ND⟩ (λcO hV=>?_);have aW:=ah (U.1.cZ hV.1 λ_ _ h=>h) (U.2.trans (hV.1.mono λ_ h=>h.elim));have h7:wr<=wr.heap.size:=U.2.size;have bB:=ae hV.2;clear hV;obtain⟨e0,a6,ag⟩:=bB.two;refine cB (v:=?_) rfl (by rfl) (λV hV=>?_) ?_;rotate_left
   .have b6:=eE V (wr.heap.size) bv ((hV.cell ag ad).trans (e0 0))
    (go_simp<;>with_reducible rfl)
   try simp only[PU]
   clear e0 a6 ag;refine tf ?_;refine a2 ?_ ?_
   ·
    refine aD rfl (λK hK=>?_) rfl;go_simp;refine(aZ _ (S.heap.size+1) A n c l 3 (aW.1.cZ (M:=λ_=>False) NC (λ_ _ h=>h)) ad ad).mono ?_;rintro e c0 ⟨gS,rfl,bg,O,h,he⟩;obtain⟨j,rfl⟩:=M6 bg;have bi:j<3:=ad;have ai:Fr (λb=>b=S.heap.size+1) cO c0:=he.fr;have bF:=ah h (aW.2.trans ai);have hv:=ae (bB.on ai ad);refine dB hK (he.fr) ?_;clear hK K;clear h he ai bg O
    iterate 2 refine tf ?_
    refine aq ?_;refine ep ?_;refine bf (λV=>Ext c0 V/\an V c0 160 #[NF,false]) ⟨NC.alloc _,ND⟩ (λiz hV=>?_);have gZ:=ah (bF.1.cZ hV.1 λ_ _ h=>h) (bF.2.trans (hV.1.mono λ_ h=>h.elim));have h8:wr<=c0.heap.size:=bF.2.size;have hB:=ae hV.2;have hZ:=ae (hv.aj hV.1);clear hV;have aF:=And.intro gZ.1 (And.intro gZ.2 (And.intro hB.o (And.intro (show bq<=c0.heap.size by omega) bi)));revert aF;generalize wr.heap.size=a3;generalize c0.heap.size=dP;intro aF;exact key a3 dP j _ aF
   ·
    refine ep ?_;refine bf (λV=>Ext cO V/\an V cO 160 #[NF,false]) ⟨NC.alloc _,ND⟩ (λij hV=>?_);have g1:=ah (aW.1.cZ hV.1 λ_ _ h=>h) (aW.2.trans (hV.1.mono λ_ h=>h.elim));have h9:wr<=cO.heap.size:=aW.2.size;have hC:=ae hV.2;have hw:=ae (bB.aj hV.1);clear hV;refine aq ?_;refine aD rfl (λK hK=>?_) rfl;go_simp;refine(aZ _ (S.heap.size+1) A n c l 3 (g1.1.cZ (M:=λ_=>False) NC (λ_ _ h=>h)) ad ad).mono ?_;rintro e ik ⟨gS,rfl,bg,O,h,he⟩;obtain⟨j,rfl⟩:=M6 bg;have bi:j<3:=ad;have ai:Fr (λb=>b=S.heap.size+1) ij ik:=he.fr;have g2:=ah h (g1.2.trans ai);have h0:=ae (hw.on ai ad);have hE:=ae (hC.on ai ad);refine dB hK (he.fr) ?_;clear hK K;clear h he ai bg O
    iterate 2 refine tf ?_
    have aF:=And.intro g2.1 (And.intro g2.2 (And.intro hE.o (And.intro (show bq<=cO.heap.size by omega) bi)));revert aF;generalize wr.heap.size=a3;generalize cO.heap.size=dP;intro aF;exact key a3 dP j _ aF
  ·
   refine aD rfl (λK hK=>?_) rfl;go_simp;refine(aZ _ (S.heap.size+1) A n c l 3 (U.1.cZ (M:=λ_=>False) (NC.drew) (λ_ _ h=>h)) ad ad).mono ?_;rintro e aL ⟨gS,rfl,bg,O,h,he⟩;obtain⟨j,rfl⟩:=M6 bg;have bi:j<3:=ad;have ai:Fr (λb=>b=S.heap.size+1) wr aL:=Fr.aF he.fr;have ao:=ah h (U.2.trans ai);refine dB hK (he.fr) ?_;clear hK K;clear h he ai bg O;refine tf ?_;refine a2 ?_ ?_
   ·
    refine ep ?_;refine bf (λV=>Ext aL V/\an V aL 5 #[.int .u8 bv]) ⟨NC.alloc _,ND⟩ (λe2 hV=>?_);have bG:=ah (ao.1.cZ hV.1 λ_ _ h=>h) (ao.2.trans (hV.1.mono λ_ h=>h.elim));have ia:wr<=aL.heap.size:=ao.2.size;have gw:=ae hV.2;clear hV;obtain⟨e0,a6,ag⟩:=gw.two;refine cB (v:=?_) rfl (by rfl) (λV hV=>?_) ?_;rotate_left
    .have b6:=eE V (aL.heap.size) bv ((hV.cell ag ad).trans (e0 0))
     (go_simp<;>with_reducible rfl)
    try simp only[PU]
    clear e0 a6 ag
    iterate 2 refine tf ?_
    refine aq ?_;refine ep ?_;refine bf (λV=>Ext e2 V/\an V e2 160 #[NF,false]) ⟨NC.alloc _,ND⟩ (λiB hV=>?_);have g3:=ah (bG.1.cZ hV.1 λ_ _ h=>h) (bG.2.trans (hV.1.mono λ_ h=>h.elim));have ib:wr<=e2.heap.size:=bG.2.size;have hG:=ae hV.2;have h1:=ae (gw.aj hV.1);clear hV;have aF:=And.intro g3.1 (And.intro g3.2 (And.intro hG.o (And.intro (show bq<=e2.heap.size by omega) bi)));revert aF;generalize aL.heap.size=a3;generalize e2.heap.size=dP;intro aF;exact key a3 dP j _ aF
   ·
    refine ep ?_;refine bf (λV=>Ext aL V/\an V aL 160 #[NF,false]) ⟨NC.alloc _,ND⟩ (λfn hV=>?_);have bL:=ah (ao.1.cZ hV.1 λ_ _ h=>h) (ao.2.trans (hV.1.mono λ_ h=>h.elim));have ic:wr<=aL.heap.size:=ao.2.size;have hH:=ae hV.2;clear hV;refine aq ?_;refine ep ?_;refine bf (λV=>Ext fn V/\an V fn 5 #[.int .u8 bv]) ⟨NC.alloc _,ND⟩ (λiC hV=>?_);have g4:=ah (bL.1.cZ hV.1 λ_ _ h=>h) (bL.2.trans (hV.1.mono λ_ h=>h.elim));have ie:wr<=fn.heap.size:=bL.2.size;have hx:=ae hV.2;have hJ:=ae (hH.aj hV.1);clear hV;obtain⟨e0,a6,ag⟩:=hx.two;refine cB (v:=?_) rfl (by rfl) (λV hV=>?_) ?_;rotate_left
    .have b6:=eE V (fn.heap.size) bv ((hV.cell ag ad).trans (e0 0))
     (go_simp<;>with_reducible rfl)
    try simp only[PU]
    clear e0 a6 ag
    iterate 2 refine tf ?_
    have aF:=And.intro g4.1 (And.intro g4.2 (And.intro hJ.o (And.intro (show bq<=aL.heap.size by omega) bi)));revert aF;generalize fn.heap.size=a3;generalize aL.heap.size=dP;intro aF;exact key a3 dP j _ aF
  ·
   refine ep ?_;refine bf (λV=>Ext wr V/\an V wr 160 #[NF,false]) ⟨(NC.alloc _).drew,ND⟩ (λc1 hV=>?_);have a1:=ah (U.1.cZ hV.1 λ_ _ h=>h) (U.2.trans (hV.1.mono λ_ h=>h.elim));have ig:wr<=wr.heap.size:=U.2.size;have g8:=ae hV.2;clear hV;refine a2 ?_ ?_
   ·
    refine ep ?_;refine bf (λV=>Ext c1 V/\an V c1 5 #[.int .u8 bv]) ⟨NC.alloc _,ND⟩ (λil hV=>?_);have g5:=ah (a1.1.cZ hV.1 λ_ _ h=>h) (a1.2.trans (hV.1.mono λ_ h=>h.elim));have ih:wr<=c1.heap.size:=a1.2.size;have gV:=ae hV.2;have hL:=ae (g8.aj hV.1);clear hV;obtain⟨e0,a6,ag⟩:=gV.two;refine cB (v:=?_) rfl (by rfl) (λV hV=>?_) ?_;rotate_left
    .have b6:=eE V (c1.heap.size) bv ((hV.cell ag ad).trans (e0 0))
     (go_simp<;>with_reducible rfl)
    try simp only[PU]
    clear e0 a6 ag;refine tf ?_;refine aq ?_;refine aD rfl (λK hK=>?_) rfl;go_simp;refine(aZ _ (S.heap.size+1) A n c l 3 (g5.1.cZ (M:=λ_=>False) NC (λ_ _ h=>h)) ad ad).mono ?_;rintro e im ⟨gS,rfl,bg,O,h,he⟩;obtain⟨j,rfl⟩:=M6 bg;have bi:j<3:=ad;have ai:Fr (λb=>b=S.heap.size+1) il im:=he.fr;have g6:=ah h (g5.2.trans ai);have h2:=ae (gV.on ai ad);have hM:=ae (hL.on ai ad);refine dB hK (he.fr) ?_;clear hK K;clear h he ai bg O
    iterate 2 refine tf ?_
    have aF:=And.intro g6.1 (And.intro g6.2 (And.intro hM.o (And.intro (show bq<=wr.heap.size by omega) bi)));revert aF;generalize c1.heap.size=a3;exact yw
   ·
    refine aD rfl (λK hK=>?_) rfl;go_simp;refine(aZ _ (S.heap.size+1) A n c l 3 (a1.1.cZ (M:=λ_=>False) NC (λ_ _ h=>h)) ad ad).mono ?_;rintro e c3 ⟨gS,rfl,bg,O,h,he⟩;obtain⟨j,rfl⟩:=M6 bg;have bi:j<3:=ad;have ai:Fr (λb=>b=S.heap.size+1) c1 c3:=he.fr;have bN:=ah h (a1.2.trans ai);have hN:=ae (g8.on ai ad);refine dB hK (he.fr) ?_;clear hK K;clear h he ai bg O;refine tf ?_;refine aq ?_;refine ep ?_;refine bf (λV=>Ext c3 V/\an V c3 5 #[.int .u8 bv]) ⟨NC.alloc _,ND⟩ (λiD hV=>?_);have g7:=ah (bN.1.cZ hV.1 λ_ _ h=>h) (bN.2.trans (hV.1.mono λ_ h=>h.elim));have ii:wr<=c3.heap.size:=bN.2.size;have hz:=ae hV.2;have hO:=ae (hN.aj hV.1);clear hV;obtain⟨e0,a6,ag⟩:=hz.two;refine cB (v:=?_) rfl (by rfl) (λV hV=>?_) ?_;rotate_left
    .have b6:=eE V (c3.heap.size) bv ((hV.cell ag ad).trans (e0 0))
     (go_simp<;>with_reducible rfl)
    try simp only[PU]
    clear e0 a6 ag
    iterate 2 refine tf ?_
    have aF:=And.intro g7.1 (And.intro g7.2 (And.intro hO.o (And.intro (show bq<=wr.heap.size by omega) bi)));revert aF;generalize c3.heap.size=a3;exact yw
 ·
  exact CJ
 ):p:=h
end Ee
open Ee in
theorem Ly(S:World)(gT:Value)(Q:Exit->Act->World->Prop)(hQ0:∀c a d v w,Q (.panic c) (a.put d v) w->Q (.panic c) a w)
  (s:∀bX aB,(∀a ab,Code.wp prog (n9 32) (Exit.then aB Q) a ab->bX a ab)->(∀a ab,Code.wp prog (IK 42) Q a ab->aB a ab)->GD S gT (Exit.then aB Q) bX)
  (K:Act->World->Prop) (hK:∀a ab,Code.wp prog (n9 19) Q a ab->K a ab):GC S gT Q K:=by
 unfold GC;intro io A n c l ar MA mn mc M GA gn gc G be bC hs hu gL gQ u8 gO eY T av bY aR aQ u16 bx bI eZ e3 e4 e5 e6 e7 e8 e9 fa fb fd fe ff u32 fh fi fj fl fm fo fp fr fs ft fu fv fw fx fy fz fA fB fD fE fF fG fH fI fJ fK fL fM fN fO fP u64 fR fS fT fU fV fW fX fY fZ f3 f4 f5 f6 f7 f8 f9 ga gb gd ge gf gg gh gi gj gk gl gm go gp gq gr gs gt gu H I am aK aM aS aX aY a4 bb bs bt bD bE bT bU b1 b9 ca cb ce cf cg ch cn cp ct cx cy cz cE cF cI cJ cK cM cN cR cS cT cV cW cX cY cZ c5 c6 c7 c8 c9 da db dc dd de df dg dh di dj dk dl dm dn dp dq dr ds dt du dv dw dx dy dA dC dD dE dF dG dH dI dJ dK dL dM dN dO dQ dR dT dU dV dW dZ d0 d1 d2 d3 d4 d5 d6 d7 d8 d9 ea eb ec ed ee ef eh ei ej ek el em en eo eq er es et eu ev ex ey ez eA eB eC eD eF eG eH eI eK eL eM eN eO eP eQ eR eS eT eU eV eW bQ cc gy gz gA gB gC gD gE gF gG gH gI gJ gK w bh;obtain⟨a9,gX⟩:=aJ bh.Ly s;obtain⟨u,hb⟩:∃u,u=w.heap.size:=⟨_,rfl⟩
 rw[<-hb] at a9;clear bh s hb;conv=>arg 2;whnf
 conv at hK=>enter [a,w,1,2];whnf
 obtain⟨a0,ak,af⟩:=a9.blk.two;go_wp2_with(fail);refine(aZ w (S.heap.size+1) A n c l 4 a9.src ad ad).mono ?_;rintro e aO ⟨cw,rfl,a7,b2,h,he⟩;obtain⟨N,rfl⟩:=M6 a7;have hj:N<4:=ad;have gY:=ae (a9.next h he.fr);clear h he a0 ak af a9 a7 b2;go_wp2_with(fail);go_loopw [12] (λb5 wr=>∃(i:Nat) (FA:NH) (fc:Nat) (F:List aI),b5=.int .i64 i/\i<=N+1/\At S u wr A n c l ar MA mn mc M GA gn gc G be bC FA i fc F) (λb5 _=>N+1 - (intOf b5).toNat)
 case atStart=>exact⟨0,none,0,[],rfl,ad,gY.o⟩
 case round=>
  obtain⟨i,FA,fc,F,rfl,aN,bh⟩:=hrel;obtain⟨cD,rfl⟩:∃cD,cD=wr:=⟨wr,rfl⟩
  clear gY;have ck:=ae bh;obtain⟨a0,ak,af⟩:=bh.blk.two;have cr:F.length=i:=by have:=bh.fs.len;simpa using this
  have hD:=bh.hD;clear bh;by_cases ap:i<=N
  .have cU:(i:Int)<=(N:Int):=ad;have e1:i<=3:=ad;have b6:=λ(W:World) (v:Int)=>iA W v;have hS:∀v,(strOf [byteOf v]).size=1:=λv=>aC _;go_upto_region 24 with(fail);clear hS;generalize hX:World.alloc _ _=g9;have bV:=g0 hX;have hd:an g9 (cD.heap.size+1) 118 #[.string (⟨#[102]⟩++strOf [byteOf (48+(i:Int))]),(),()]:=by
    rw[<-hX];exact an.gF _ _ _ (by simp)
   have f2:=ck.src.cZ bV λ_ _ h=>h;have dz:=ay f2 bV hd;clear hX bV hd f2 a0 ak af;by_cases cl:i=0
   case' pos=>
    have hi:((i:Int) == 0)=true:=by simp;omega
    obtain⟨f0,cH,dS⟩:=dz.2.2.two;have c2:=ae cl;clear cl;go_upto_region 26 with(fail);generalize hX:World.setCell _ _ _=Y;have J:=cP hX;have ix:=ck.blk.lt;have hF:cu Y (S.heap.size+1) A n c l/\Fr (λb=>b=S.heap.size+1) cD Y/\an Y (cD.heap.size+1) 118 #[.string (jS i),(),()]:=by
     refine⟨dz.1.cZ J (λb O h=>ad),(dz.2.1.mono λ_ h=>h.elim).eW (J.below dz.2.1.size λk aj h=>ad),?_⟩;rw[<-hX,c2.o];exact dz.2.2.aK 0 _
    clear hX J f0 cH dS dz
   case' neg=>
    have hi:((i:Int) == 0)=false:=by simp;omega
    have c2:=ae cl;clear cl;go_upto_region 26 with(fail);have hF:cu g9 (S.heap.size+1) A n c l/\Fr (λb=>b=S.heap.size+1) cD g9/\an g9 (cD.heap.size+1) 118 #[.string (jS i),(),()]:=⟨dz.1,dz.2.1.mono λ_ h=>h.elim,by have:=dz.2.2;rw[E3 ad c2.o rfl] at this;exact this⟩
    clear dz;revert hF;generalize g9=Y;intro hF
   all_goals
    clear b6;have bZ:=ae hF;obtain⟨a0,ak,af⟩:=(ck.next bZ.1 bZ.2.1).blk.two;clear hF;go_wp2_with(fail);refine(aZ Y (S.heap.size+1) A n c l 3 bZ.1 ad ad).mono ?_;rintro e ha ⟨bR,rfl,a7,b2,h,he⟩;obtain⟨hr,rfl⟩:=M6 a7;have b4:hr<=2:=ad;have co:=ay h (bZ.2.1.trans he.fr) (bZ.2.2.on he.fr (ax ck.blk.lt));clear h he a0 ak af bZ a7 b2;go_wp2_with(fail);go_loopw [14] (λhk b7=>∃(m:Nat) (PA:NH) (pn pc:Nat) (ps:List (ByteArray×Bool)),hk=.int .i64 m/\m<=2/\pn+m<=2/\(i=0->ps=[])/\(i≠0->ps.map (·.1)++fk m=fk hr)/\cu b7 (S.heap.size+1) A n c l/\Fr (λb=>b=S.heap.size+1) cD b7/\an b7 (cD.heap.size+1) 118 #[.string (jS i),.slice PA pn pc,()]/\Gr (λ_=>False) (cD.heap.size+1+1) 160 2 b7 PA pn pc (ps.map cC)) (λhk _=>(intOf hk).toNat)
    case atStart=>exact⟨hr,none,0,0,[],rfl,b4,ad,λ_=>rfl,λ_=>rfl,co.1,co.2.1,co.2.2,Gr.nil _ _ _ _ _⟩
    case round=>
     obtain⟨m,PA,pn,pc,ps,rfl,aA,ew,hn,ho,hF⟩:=hrel;clear co;have bZ:=ae hF;have gN:=ah hn ho;have hQ:=ck.next hF.1 hF.2.1;obtain⟨a0,ak,af⟩:=hQ.blk.two;obtain⟨f0,cH,dS⟩:=hF.2.2.1.two;have hA:=ae hQ;clear hF hn ho hQ;by_cases ap:0<m/\0<i
     .obtain⟨cv,cm⟩:=ap;have q1:decide ((m:Int) > 0)=true:=by simp;omega
      have cL:decide ((i:Int) > 0)=true:=by simp;omega
      have iv:(m:Int)<=2:=ad;have gR:¬S+1+1=S.heap.size+1:=ad;have bS:S+1+1<wr.heap.size:=hA.blk.lt;clear f0 cH dS;go_upto_region 29 with(fail);exact Bl
     .have cG:(¬0<m)\/((0<m)/\¬0<i):=by
       by_cases ac:0<m
       .exact .inr ⟨ac,λh=>ap ⟨ac,h⟩⟩
       .exact .inl ac
      have hp:∃aU,aU<=2/\ps.map (·.1)=fk aU:=by
       by_cases ac:i=0
       .exact⟨0,ad,by rw[gN.1 ac];rfl⟩
       .have az:m=0:=by
         by_cases aV:0<m
         .exact absurd ⟨aV,ad⟩ ap
         .omega
        have aV:=gN.2 ac;rw[az] at aV;exact⟨hr,b4,by simpa[fk] using aV⟩
      have h4:=ae hp;clear ap hp;rcases cG with q1|⟨q1,cL⟩
      ·
       exact HY
      ·
       exact HY
  .have cU:¬(i:Int)<=(N:Int):=ad;go_upto_region 32 with(fail);have b8:=gX.o _ _ (by assumption) (by assumption);unfold GD at b8;exact b8 u A n c l ar MA mn mc M GA gn gc G be bC FA i fc F cD ad ck.o
end Go.Proofs.YtnigabjngpnbiabGreat

/- Part 38 of the proof. No condition of its own. -/
import Derived.Test.YtbkhhfajcgkpgaaGreatQ35
namespace Go.Proofs.YtbkhhfajcgkpgaaGreat
open Go.RowKit Go.Proofs.Tryz
set_option maxRecDepth 1000000
set_option maxHeartbeats 25600000
set_option linter.unusedVariables false
variable{p:Prop}
namespace BI
theorem fK(h:p:=by
 generalize bJ:World.setCell _ _ _=gN;have f:=ba.1.add aP.1 aP.2 ab (mM.snoc ba.1.ok a5 (re:=true) (sz:=0) ab ab (by intro _;rfl));rw[bJ] at f;have bs:=ad f;clear bJ f a0 ap ak;go_wp2_with(fail);go_roundw
 case rel=>exact⟨i+1,o,cV,M++[⟨gk i,true,0⟩],by go_num,ab,bs.o⟩
 case measure=>exact aB
 ):p:=h
theorem jF(h:p:=by
 have b8:af W w.heap.size 71 #[.slice none 0 0,.slice none 0 0,.slice none 0 0]:=bg▸Ko;have cA:W.heap.size=w.heap.size+1:=by rw[←bg];simp
 have y:=H.cO (Fr.ext aF) aF.size;have ax:=aQ aF b8 y;clear bg aF b8 y;go_wp2_with(fail);refine(Cs 400 A n c l W ab ax.2.2 hc).mono ?_;rintro e aN ⟨⟨I,aZ,az,rfl,a3,aV,aL⟩,rfl⟩;have bK:=ad aL;clear aL;go_upto_region 2 with(fail);generalize hX:World.alloc _ _=X;have bo:Ext W X:=hX▸(Kn.alloc _).alloc _;have q:af X (w.heap.size+1) 168 #[.slice I aZ az,.int .i64 0]:=hX▸(af.ct _ _ _ cA.symm).alloc _;have r:af X (w.heap.size+1+1) 170 #[.pointer (some ⟨w.heap.size+1,0,none⟩),.slice none 0 0,.slice none 0 0,.slice none 0 0,.int .i64 24,.bool false]:=hX▸af.ct _ _ _ (by simp[cA]);have av:b0 X (w.heap.size+1) I aZ az aV:=⟨q.lt,by rw[q.cell];rfl,⟨0,ab,by rw[q.cell];rfl⟩,q.frozen 1,(by have:=bK.o;rw[cA] at this;exact this.fS (bo.below ab fun _ _ h=>h)),ab⟩
 have H1:=bw av r (ax.2.1.ak bo) (ax.1.trans bo);clear hX bo q r av ax bK;obtain⟨a0,ap,ak⟩:=H1.2.1.two;go_wp2_with(fail);refine(aW X (w.heap.size+1) I aZ az aV 3 H1.1 ab ab).mono ?_;rintro e aO ⟨b5,rfl,aJ,bF,h,he⟩;have aE:=bw h (H1.2.1.on he.fr ab) (H1.2.2.1.on he.fr ab) (Fr.low (M:=fun b=>b=w.heap.size+1) ((H1.2.2.2.mono fun _ h=>h.elim).trans he.fr) fun k aj=>ab);clear h he aJ bF a0 ap ak H1;obtain⟨a0,ap,ak⟩:=aE.2.1.two;go_upto_region 3 with(fail);generalize (b5 == 1)=ar;generalize hX:World.setCell _ _ _=bT;have aD:Fr (fun b=>b=w.heap.size+1+1) aO bT:=hX▸(Fr.refl (fun b=>b=w.heap.size+1+1) aO).setCell (.inl rfl) _;have r:af bT (w.heap.size+1+1) 170 #[.pointer (some ⟨w.heap.size+1,0,none⟩),.slice none 0 0,.slice none 0 0,.slice none 0 0,.int .i64 24,.bool ar]:=hX▸aE.2.1.aC 5 _;have ao:=bw (aE.1.cG aD fun b O h=>ab) r (aE.2.2.1.on aD ab) (Fr.low (M:=fun b=>b=w.heap.size+1+1) ((aE.2.2.2.mono fun _ h=>h.elim).trans aD) fun k aj=>ab);clear hX aD r aE a0 ap ak;obtain⟨a0,ap,ak⟩:=ao.2.1.two;go_wp2_with(fail);refine(aW bT (w.heap.size+1) I aZ az aV 4 ao.1 ab ab).mono ?_;rintro e ci ⟨bE,rfl,aJ,bF,h,he⟩;obtain⟨x,rfl⟩:=JV aJ;have u:x<4:=ab;have P:=bw h (ao.2.1.on he.fr ab) (ao.2.2.1.on he.fr ab) (Fr.low (M:=fun b=>b=w.heap.size+1) ((ao.2.2.2.mono fun _ h=>h.elim).trans he.fr) fun k aj=>ab);clear h he aJ bF a0 ap ak ao;go_wp2_with(fail)
 go_loopw [4] (fun cg wr=>∃(i:Nat) (MA:Kr) (mc:Nat) (M:List bA),cg=.int .i64 i∧i≤1+x∧oK w wr I aZ az aV ar MA i mc M) (fun cg _=>1+x - (intOf cg).toNat)
 case atStart=>exact⟨0,none,0,[],rfl,ab,⟨P.1,P.2.1,P.2.2.1,Gr.nil _ _ _ _ _,ab,(fun i m h=>by cases h),P.2.2.2⟩⟩
 case round=>
  obtain⟨i,MA,mc,M,rfl,al,aY⟩:=hrel;clear P;have b4:=ad aY;obtain⟨a0,ap,ak⟩:=aY.blk.two;have a5:M.length=i:=by have:=aY.ms.len;simpa using this
  have bN:=aY.blk.lt;clear aY;by_cases aw:i<1+x
  ·have g:(i:Int)<1+(x:Int):=ab;have e1:i≤3:=ab;have bU:=fun(W:World) (v:Int)=>kI W v;go_upto_region 7 with(fail);clear bU;generalize hX:World.alloc _ _=dv;have a4:Ext wr dv:=hX▸(Kn.alloc _).alloc _;have g1:af dv (wr.heap.size+1) 125 #[.string (gk i),.bool false,.int .i64 0]:=by
    rw[←hX,←CZ (by omega:i<4)];exact af.ct _ _ _ (by simp)
   have z:=ai (b4.ak a4) g1;have ca:(Value.slice MA i mc).ownBlock≠some (wr.heap.size+1):=fun O=>by have:=(b4.ms.lt O).2;omega
   have J:=ad ca;clear hX a4 g1 a0 ap ak ca;obtain⟨a0,ap,ak⟩:=z.1.blk.two;go_wp2_with(fail);refine(aW dv (w.heap.size+1) I aZ az aV 5 z.1.src ab ab).mono ?_;rintro e Y ⟨bR,rfl,t,aH,h,he⟩;have bM:=ai (z.1.next h he.fr) (z.2.on he.fr ab);have cw:wr.heap.size+1<Y.heap.size:=bM.2.lt;clear h he a0 ap ak;by_cases ae:bR=1
   ·have q1:(bR == 1)=true:=by simpa using ae
    clear ae t aH;obtain⟨d0,ag,aR⟩:=bM.2.two;go_upto_region 12 with(fail);generalize hX:World.setCell _ _ _=ck;have aD:Fr (fun b=>b=wr.heap.size+1) Y ck:=hX▸(Fr.refl (fun b=>b=wr.heap.size+1) Y).setCell (.inl rfl) _;have hM:af ck (wr.heap.size+1) 125 #[.string (gk i),.bool true,.int .i64 0]:=hX▸bM.2.aC 1 _;have j:=ai (bM.1.fresh ab J.o aD) hM;clear hX aD hM d0 ag aR bM;obtain⟨a0,ap,ak⟩:=j.1.blk.two;obtain⟨d0,ag,aR⟩:=j.2.two;have E:=j.2.lt;refine eE (fun _=>False) [(0,3),(1,3),(2,3),(3,3),(4,3),(5,0),(6,0),(7,1),(8,2),(9,3),(10,3),(11,3),(12,2)] ?_
    iterate 5 refine pf ?_
    iterate 2 refine ph ?_
    refine ru ?_;generalize bD:World.drew (World.alloc _ _)=Z;have bl:Ext ck Z:=bD▸(Kn.alloc _).drew;have bC:af Z ck.heap.size 125 #[.string (gk i),.bool true,.int .i64 0]:=bD▸Ko;have bd:=j.1.ak bl;have ba:=ai bd bC;have bi:=bl.size;clear bD bl bC bd a0 ap ak d0 ag aR;refine aq rfl (fun K hK=>?_);rw[if_pos (by rfl)];refine eO lD (.tmp 73) (.tmp 75) (by rfl) ba.1.ms ba.2 (eR.2 rfl:(dZ ⟨gk i,true,0⟩).rep Z _ _) (by rfl) (by rfl) (by rfl) ab ab ab ?_;intro o cV fn be T ce b7;have a8:∀b,(Value.slice MA i mc).ownBlock=some b→w.heap.size+1+1+1≤b:=fun b O=>(ba.1.ms.lt O).1;have aU:=ba.1.blk.on T (fun O=>by have:=a8 _ O;omega);have aP:=ai be T;clear be T ce b7 a8;obtain⟨a0,ap,ak⟩:=aU.two;clear aU;refine eD hK ?_;clear hK K
    iterate 3 refine pf ?_
    exact fJ
   by_cases aC:bR=2
   ·have q1:(bR == 1)=false:=by simpa using ae
    have cB:(bR == 2)=true:=by simpa using aC
    clear ae aC t aH;obtain⟨a0,ap,ak⟩:=bM.1.blk.two;go_wp2_with(fail);refine(aW Y (w.heap.size+1) I aZ az aV 3 bM.1.src ab ab).mono ?_;rintro e f1 ⟨bY,rfl,F,ah,h,he⟩;have bc:=ai (bM.1.next h he.fr) (bM.2.on he.fr ab);clear h he a0 ap ak bM;obtain⟨d0,ag,aR⟩:=bc.2.two;go_upto_region 12 with(fail);generalize hX:World.setCell _ _ _=ck;have aD:Fr (fun b=>b=wr.heap.size+1) f1 ck:=hX▸(Fr.refl (fun b=>b=wr.heap.size+1) f1).setCell (.inl rfl) _;have hM:af ck (wr.heap.size+1) 125 #[.string (gk i),.bool false,.int .i64 (1+bY)]:=hX▸bc.2.aC 2 _;have j:=ai (bc.1.fresh ab J.o aD) hM;clear hX aD hM d0 ag aR bc;obtain⟨a0,ap,ak⟩:=j.1.blk.two;obtain⟨d0,ag,aR⟩:=j.2.two;have E:=j.2.lt;refine eE (fun _=>False) [(0,3),(1,3),(2,3),(3,3),(4,3),(5,0),(6,0),(7,1),(8,2),(9,3),(10,3),(11,3),(12,2)] ?_
    iterate 5 refine pf ?_
    iterate 2 refine ph ?_
    refine ru ?_;generalize bD:World.drew (World.alloc _ _)=Z;have bl:Ext ck Z:=bD▸(Kn.alloc _).drew;have bC:af Z ck.heap.size 125 #[.string (gk i),.bool false,.int .i64 (1+bY)]:=bD▸Ko;have bd:=j.1.ak bl;have ba:=ai bd bC;have bi:=bl.size;clear bD bl bC bd a0 ap ak d0 ag aR;refine aq rfl (fun K hK=>?_);rw[if_pos (by rfl)];refine eO lD (.tmp 73) (.tmp 75) (by rfl) ba.1.ms ba.2 (eR.2 rfl:(dZ ⟨gk i,false,(1+bY)⟩).rep Z _ _) (by rfl) (by rfl) (by rfl) ab ab ab ?_;intro o cV fn be T ce b7;have a8:∀b,(Value.slice MA i mc).ownBlock=some b→w.heap.size+1+1+1≤b:=fun b O=>(ba.1.ms.lt O).1;have aU:=ba.1.blk.on T (fun O=>by have:=a8 _ O;omega);have aP:=ai be T;clear be T ce b7 a8;obtain⟨a0,ap,ak⟩:=aU.two;clear aU;refine eD hK ?_;clear hK K
    iterate 3 refine pf ?_
    refine aq rfl (fun K hK=>?_);go_simp;refine eD hK ?_;clear hK K;refine aA ?_;generalize bJ:World.setCell _ _ _=gN;have f:=ba.1.add aP.1 aP.2 ab (mM.snoc ba.1.ok a5 (re:=false) (sz:=(1+bY)) ab ab (by intro h;cases h));rw[bJ] at f;have bs:=ad f;clear bJ f a0 ap ak;go_wp2_with(fail);go_roundw
    case rel=>exact⟨i+1,o,cV,M++[⟨gk i,false,(1+bY)⟩],by go_num,ab,bs.o⟩
    case measure=>exact aB
   ·have q1:(bR == 1)=false:=by simpa using ae
    have cB:(bR == 2)=false:=by simpa using aC
    clear ae aC t aH;go_upto_region 12 with(fail);obtain⟨a0,ap,ak⟩:=bM.1.blk.two;obtain⟨d0,ag,aR⟩:=bM.2.two;refine eE (fun _=>False) [(0,3),(1,3),(2,3),(3,3),(4,3),(5,0),(6,0),(7,1),(8,2),(9,3),(10,3),(11,3),(12,2)] ?_
    iterate 5 refine pf ?_
    iterate 2 refine ph ?_
    refine ru ?_;generalize bD:World.drew (World.alloc _ _)=Z;have bl:Ext Y Z:=bD▸(Kn.alloc _).drew;have bC:af Z Y.heap.size 125 #[.string (gk i),.bool false,.int .i64 0]:=bD▸Ko;have bd:=bM.1.ak bl;have ba:=ai bd bC;have bi:=bl.size;clear bD bl bC bd a0 ap ak d0 ag aR;refine aq rfl (fun K hK=>?_);rw[if_pos (by rfl)];refine eO lD (.tmp 73) (.tmp 75) (by rfl) ba.1.ms ba.2 (eR.2 rfl:(dZ ⟨gk i,false,0⟩).rep Z _ _) (by rfl) (by rfl) (by rfl) ab ab ab ?_;intro o cV fn be T ce b7;have a8:∀b,(Value.slice MA i mc).ownBlock=some b→w.heap.size+1+1+1≤b:=fun b O=>(ba.1.ms.lt O).1;have aU:=ba.1.blk.on T (fun O=>by have:=a8 _ O;omega);have aP:=ai be T;clear be T ce b7 a8;obtain⟨a0,ap,ak⟩:=aU.two;clear aU;refine eD hK ?_;clear hK K
    iterate 3 refine pf ?_
    refine aq rfl (fun K hK=>?_);go_simp;refine eD hK ?_;clear hK K;refine aA ?_;generalize bJ:World.setCell _ _ _=gN;have f:=ba.1.add aP.1 aP.2 ab (mM.snoc ba.1.ok a5 (re:=false) (sz:=0) ab ab (by intro _;rfl));rw[bJ] at f;have bs:=ad f;clear bJ f a0 ap ak;go_wp2_with(fail);go_roundw
    case rel=>exact⟨i+1,o,cV,M++[⟨gk i,false,0⟩],by go_num,ab,bs.o⟩
    case measure=>exact aB
  ·have g:¬(i:Int)<1+(x:Int):=ab;go_upto_region 13 with(fail);have fg:=gP.o _ (by assumption);unfold DS at fg;exact fg I aZ az aV ar MA i mc M wr ab b4.o
 ):p:=h
end BI
open BI in
theorem Jl(A:Kr)(n c:Nat)(l:List Int)(w:World)(h:cC (EF b2) 1 w w.heap.size A n l)(hc:n≤c)
  (s:∀K,(∀a ac,Code.wp prog (m5 13) (bodyPost prog Tryz.f59 (j2 w)) a ac→K a ac)→DS w (.slice A n c) (bodyPost prog Tryz.f59 (j2 w)) K) :
  Calls prog 59 #[.slice A n c] w (j2 w):=by
 obtain⟨H,gP⟩:=aM h s;clear h s;go_enter func59,ntmps59;exact jE
namespace BJ
theorem gq(h:p:=by
 refine cw ?_;generalize bD:World.setCell _ _ _=Y;have g4:wr.heap.size≤cn:=ab;obtain⟨bt,bA,bk⟩:=dL (M:=fun b=>b=J.heap.size+1) [.string (⟨#[103]⟩++strOf [byteOf bv]),.int .i64 (IntKind.i64.wrap ((j:Int) - 2))] (by rfl) bH t g4 bD;obtain⟨y,bB⟩:∃y:Int,y=IntKind.i64.wrap ((j:Int) - 2):=⟨_,rfl⟩
 rw[←bB] at bt;rw[IntWalk.i64_in _ ab] at bB;rw[CN ab aK.o] at bt;have c0:=b4.next (av.cG bk fun b O h=>ab) bA;have ba:-2≤y∧y≤2:=ab;have bM:=ai c0 bt;have bW:=ad ba;clear bD bt bA bk c0 bB ba av t bH br ah bj bc;obtain⟨a0,ap,ak⟩:=bM.1.blk.two;obtain⟨br,ah,bj⟩:=bM.2.two;have E:∀b,(Value.slice GA i gc).ownBlock=some b→I≤b∧b<wr.heap.size:=fun b O=>b4.rows.one.lt O;have aL:∀b,(Value.slice o i u).ownBlock=some b→I≤b∧b<wr.heap.size:=fun b O=>b4.rows.two.lt O;have bb:¬(Value.slice GA i gc).ownBlock=some (J.heap.size+1+1):=fun h=>by have:=(E _ h).1;omega
 have fg:¬(Value.slice GA i gc).ownBlock=some cn:=fun h=>by have:=(E _ h).2;omega
 have gY:I≤Y.heap.size:=bM.1.hD.2;have gZ:wr.heap.size≤Y.heap.size:=by have:=bM.2.lt;omega
 have bl:=ai E aL;clear E aL;go_upto_region 18 with(fail);refine tX (fun b=>(Value.slice GA i gc).ownBlock=some b) [13,17] (.free 0 (.free 1 (.free 2 (.free 3 (.free 4 (.held 5 (.held 6 (.free 9 (.free 10 (.held 11 (.pick [7,12] (fun i=>bif i == 7 then .pick [8,12] (fun i=>bif i == 8 then .pick [12] (fun _=>.pick [13] (fun _=>.free 14 (.free 15 (.free 16 (.pick [17] (fun _=>.free 18 (.stop))))))) else .pick [8] (fun _=>.pick [13] (fun _=>.free 14 (.free 15 (.free 16 (.pick [17] (fun _=>.free 18 (.stop)))))))) else .pick [7] (fun _=>.pick [8] (fun _=>.pick [13] (fun _=>.free 14 (.free 15 (.free 16 (.pick [17] (fun _=>.free 18 (.stop)))))))))))))))))))) ?_
 iterate 5 refine tf ?_
 iterate 2 refine n8 ?_
 iterate 2 refine tf ?_
 refine n8 ?_;clear a0 ap ak br ah bj;refine ix (P:=?JA) (ops:=?JG) (Q:=?JK) (R:=?JM) (tails:=?JO) (rest:=.pick [13] (fun _=>.free 14 (.free 15 (.free 16 (.pick [17] (fun _=>.free 18 (.stop))))))) (aa:=?JF)
  (C:=fun(_:Nat) bm A2 bE V=>True∧∃q1 cB,Ext Y q1∧Gr (fun b=>I≤b∧(Value.slice o i u).ownBlock≠some b) I 136 2 cB A2 (i+1) bE (G.map h8++[h8 (dv i,y)])∧Fr (fun b=>(Value.slice GA i gc).ownBlock=some b) q1 cB∧dc q1 GA i gc A2 (i+1) bE∧Ext cB V∧af V bm 9 #[.string (dv i)]) (fun key=>?Jk) ?Jj
 case Jk=>
  refine bq ?_ ?_
  ·
   refine eZ ?_;generalize hV:World.drew (World.alloc _ _)=c3;have e1:Ext Y c3:=hV▸(Kn.alloc _).drew;have dw:af c3 Y.heap.size 136 #[.string (dv i),.int .i64 y]:=hV▸Ko;clear hV;refine bq ?_ ?_
   ·
    refine aE rfl (fun K hK=>?_) rfl;rw[if_pos (by rfl)];refine eO u5 (.tmp 108) (.tmp 110) (by rfl) (bM.1.rows.ak e1).one dw (sH.2 rfl:(h8 (dv i,y)).rep c3 _ _) (by rfl) (by rfl) (by rfl) ab ab (aH e1.size) ?_;intro A2 bE aO b7 f1 o1 c1;refine dW hK (f1) ?_;clear hK K;refine ao ?_;refine eZ ?_;have aF:True∧∃q1 cB,Ext Y q1∧Gr (fun b=>I≤b∧(Value.slice o i u).ownBlock≠some b) I 136 2 cB A2 (i+1) bE (G.map h8++[h8 (dv i,y)])∧Fr (fun b=>(Value.slice GA i gc).ownBlock=some b) q1 cB∧dc q1 GA i gc A2 (i+1) bE∧Ext cB (aO.alloc (.cells #[.string (dv i)] 9))∧af (aO.alloc (.cells #[.string (dv i)] 9)) aO.heap.size 9 #[.string (dv i)]:=⟨trivial,c3,aO,e1,b7,f1,o1,Kn.alloc _,Ko⟩
    clear b7 o1;revert aF;generalize aO.heap.size=bm;generalize Y.heap.size=df;intro aF;exact key df bm A2 bE _ aF
   ·
    refine eZ ?_;generalize hV:World.alloc _ _=z;have a8:af z c3.heap.size 9 #[.string (dv i)]:=hV▸Ko;have aS:=by have:=dw.alloc (.cells #[.string (dv i)] 9);rw[hV] at this;exact this
    have e2:Ext Y z:=hV▸e1.alloc _;clear hV dw;refine ao ?_;refine aE rfl (fun K hK=>?_) rfl;rw[if_pos (by rfl)];refine eO u5 (.tmp 108) (.tmp 110) (by rfl) (bM.1.rows.ak e2).one aS (sH.2 rfl:(h8 (dv i,y)).rep z _ _) (by rfl) (by rfl) (by rfl) ab ab (aH e2.size) ?_;intro A2 bE aO b7 f1 o1 c1;refine dW hK (f1) ?_;clear hK K;have a1:¬(Value.slice GA i gc).ownBlock=some c3.heap.size:=fun O=>by have:=(bl.1 _ O).2;have:=e1.size;omega
    have aF:True∧∃q1 cB,Ext Y q1∧Gr (fun b=>I≤b∧(Value.slice o i u).ownBlock≠some b) I 136 2 cB A2 (i+1) bE (G.map h8++[h8 (dv i,y)])∧Fr (fun b=>(Value.slice GA i gc).ownBlock=some b) q1 cB∧dc q1 GA i gc A2 (i+1) bE∧Ext cB aO∧af aO c3.heap.size 9 #[.string (dv i)]:=⟨trivial,z,aO,e2,b7,f1,o1,Kn,a8.on f1 a1⟩
    clear b7 o1;revert aF;generalize c3.heap.size=bm;generalize Y.heap.size=df;intro aF;exact key df bm A2 bE _ aF
  ·
   refine eZ ?_;generalize hV:World.drew (World.alloc _ _)=c3;have a8:af c3 Y.heap.size 9 #[.string (dv i)]:=hV▸Ko;have e1:Ext Y c3:=hV▸(Kn.alloc _).drew;clear hV;refine ao ?_;refine eZ ?_;generalize hV:World.alloc _ _=z;have e2:Ext Y z:=hV▸e1.alloc _;have dw:af z c3.heap.size 136 #[.string (dv i),.int .i64 y]:=hV▸Ko;have aU:af z Y.heap.size 9 #[.string (dv i)]:=hV▸a8.alloc _;clear hV;refine ao ?_;refine aE rfl (fun K hK=>?_) rfl;rw[if_pos (by rfl)];refine eO u5 (.tmp 108) (.tmp 110) (by rfl) (bM.1.rows.ak e2).one dw (sH.2 rfl:(h8 (dv i,y)).rep z _ _) (by rfl) (by rfl) (by rfl) ab ab (aH e2.size) ?_;intro A2 bE aO b7 f1 o1 c1;refine dW hK (f1) ?_;clear hK K;have a1:¬(Value.slice GA i gc).ownBlock=some Y.heap.size:=fun O=>by have:=(bl.1 _ O).2;omega
   have aF:True∧∃q1 cB,Ext Y q1∧Gr (fun b=>I≤b∧(Value.slice o i u).ownBlock≠some b) I 136 2 cB A2 (i+1) bE (G.map h8++[h8 (dv i,y)])∧Fr (fun b=>(Value.slice GA i gc).ownBlock=some b) q1 cB∧dc q1 GA i gc A2 (i+1) bE∧Ext cB aO∧af aO Y.heap.size 9 #[.string (dv i)]:=⟨trivial,z,aO,e2,b7,f1,o1,Kn,aU.on f1 a1⟩
   clear b7 o1;revert aF;generalize Y.heap.size=bm;generalize c3.heap.size=df;intro aF;exact key df bm A2 bE _ aF
 case Jj=>
  rintro df bm A2 bE V ⟨_,aN,aO,e1,b7,f1,o1,e2,a8⟩;have s1:=e1.size;have s2:=f1.size;have aj:=e2.size;obtain⟨E,aL⟩:=bl.o;have au:=((bM.1.rows.ak e1).grow b7 f1 o1).ak e2;have bV:af V (J.heap.size+1+1) _ _:=((bM.1.blk.ak e1).on f1 bb).ak e2;have fc:¬(Value.slice o i u).ownBlock=some (J.heap.size+1+1):=fun h=>by have:=(aL _ h).1;omega
  refine ao ?_;refine bS rfl (fun K hK=>?_) rfl;rw[if_pos (by rfl)];refine eO kd (.tmp 112) (.tmp 115) (by rfl) au.two a8 (tW.2 rfl:(D.s (dv i)).rep V _ _) (by rfl) (by rfl) (by rfl) ab ab ab ?_;intro cs eE ci g2 f2 eN c2;have m:=(au.swap.grow g2 f2 eN).swap;have bG:=bV.on f2 fc;have S:Fr (fun b=>(Value.slice GA i gc).ownBlock=some b∨(Value.slice o i u).ownBlock=some b) Y ci:=((((e1.mono fun _ h=>h.elim).trans (f1.mono fun _ h=>.inl h)).trans (e2.mono fun _ h=>h.elim)).trans (f2.mono fun _ h=>.inr h))
  have r:=ai m S;clear b7 f1 o1 e1 e2 a8 au bV g2 f2 eN c2 m S;obtain⟨a0,ap,ak⟩:=bG.two;clear bG;refine eD hK ?_;clear hK K
  iterate 3 refine tf ?_
  refine ao ?_;refine bS rfl (fun K hK=>?_) rfl;go_simp;refine eD hK ?_;clear hK K;refine tf ?_;refine cw ?_;generalize hX:World.setCell _ _ _=gN;have dA:k4 I 136 2 9 1 ci A2 (i+1) bE ((G++[(dv i,y)]).map h8) cs (i+1) eE (((G++[(dv i,y)]).map (·.1)).map D.s):=by
   simp only[JX,JW,Kd];exact r.1
  have f:=bM.1.add dA r.2 ab (b4.yz.snoc bN bW.1 bW.2);rw[hX] at f;have bs:=ad f;clear hX f dA a0 ap ak;go_wp2_with(fail);go_roundw
  case rel=>exact⟨i+1,A2,bE,G++[(dv i,y)],cs,eE,by go_num,rfl,ab,bs.o⟩
  case measure=>exact aB
 ):p:=h
theorem zm(h:p:=by
 generalize g3:IntKind.u8.wrap (IntKind.i64.wrap (48+(i:Int)))=bv;obtain⟨a3,hA⟩:∃a3,a3=wr.heap.size:=⟨_,rfl⟩
 have aK:=ad g3;clear g3;have hf:(strOf [byteOf bv]).size=1:=aG _;have U:=ai b4.src (Fr.refl (fun b=>b=J.heap.size+1) wr);refine iw (P:=?oK) (ops:=?G4) (Q:=?G6) (R:=?G7) (tails:=?G8) (rest:=.pick [14] (fun _=>.stop)) (aa:=?G3)
  (C:=fun(aX cn j:Nat) dz=>b0 dz (J.heap.size+1) A n c l∧Fr (fun b=>b=J.heap.size+1) wr dz∧af dz cn 136 #[.string ⟨#[]⟩,.int .i64 0]∧a3≤cn∧j<5) (fun key=>?x6) ?xZ
 case x6=>
  refine qj ?_ ?_ ?_
  ·
   refine eZ ?_;refine bg (fun V=>Ext wr V∧af V wr.heap.size 5 #[.int .u8 bv]) ⟨(Kn.alloc _).drew,Ko⟩ (fun r1 hV=>?_);have F:=ai (U.1.cG hV.1 fun _ _ h=>h) (U.2.trans (hV.1.mono fun _ h=>h.elim));have gS:wr.heap.size≤wr.heap.size:=U.2.size;have X:=ad hV.2;clear hV;obtain⟨e0,a5,aZ⟩:=X.two;refine cf (v:=?_) rfl (by rfl) (fun V hV=>?_) ?_;rotate_left
   ·have bU:=e4 V (wr.heap.size) bv ((hV.cell aZ ab).trans (e0 0))
    (go_simp<;>with_reducible rfl)
   try simp only[PU]
   clear e0 a5 aZ;refine tf ?_;refine bq ?_ ?_
   ·
    refine aE rfl (fun K hK=>?_) rfl;go_simp;refine(aW _ (J.heap.size+1) A n c l 5 (F.1.cG (M:=fun _=>False) Kn (fun _ _ h=>h)) ab ab).mono ?_;rintro e gE ⟨b6,rfl,aV,O,h,he⟩;obtain⟨j,rfl⟩:=JV aV;have bc:j<5:=ab;have t:Fr (fun b=>b=J.heap.size+1) r1 gE:=he.fr;have az:=ai h (F.2.trans t);have bO:=ad (X.on t ab);refine dW hK (he.fr) ?_;clear hK K;clear h he t aV O
    iterate 2 refine tf ?_
    refine ao ?_;refine eZ ?_;refine bg (fun V=>Ext gE V∧af V gE.heap.size 136 #[.string ⟨#[]⟩,.int .i64 0]) ⟨Kn.alloc _,Ko⟩ (fun eI hV=>?_);have aP:=ai (az.1.cG hV.1 fun _ _ h=>h) (az.2.trans (hV.1.mono fun _ h=>h.elim));have gT:wr.heap.size≤gE.heap.size:=az.2.size;have bX:=ad hV.2;have gH:=ad (bO.ak hV.1);clear hV;have aF:=And.intro aP.1 (And.intro aP.2 (And.intro bX.o (And.intro (show a3≤gE.heap.size by omega) bc)));revert aF;generalize wr.heap.size=aX;generalize gE.heap.size=cn;intro aF;exact key aX cn j _ aF
   ·
    refine eZ ?_;refine bg (fun V=>Ext r1 V∧af V r1.heap.size 136 #[.string ⟨#[]⟩,.int .i64 0]) ⟨Kn.alloc _,Ko⟩ (fun gI hV=>?_);have aQ:=ai (F.1.cG hV.1 fun _ _ h=>h) (F.2.trans (hV.1.mono fun _ h=>h.elim));have gU:wr.heap.size≤r1.heap.size:=F.2.size;have b8:=ad hV.2;have bR:=ad (X.ak hV.1);clear hV;refine ao ?_;refine aE rfl (fun K hK=>?_) rfl;go_simp;refine(aW _ (J.heap.size+1) A n c l 5 (aQ.1.cG (M:=fun _=>False) Kn (fun _ _ h=>h)) ab ab).mono ?_;rintro e gO ⟨b6,rfl,aV,O,h,he⟩;obtain⟨j,rfl⟩:=JV aV;have bc:j<5:=ab;have t:Fr (fun b=>b=J.heap.size+1) gI gO:=he.fr;have a4:=ai h (aQ.2.trans t);have gL:=ad (bR.on t ab);have ca:=ad (b8.on t ab);refine dW hK (he.fr) ?_;clear hK K;clear h he t aV O
    iterate 2 refine tf ?_
    have aF:=And.intro a4.1 (And.intro a4.2 (And.intro ca.o (And.intro (show a3≤r1.heap.size by omega) bc)));revert aF;generalize wr.heap.size=aX;generalize r1.heap.size=cn;intro aF;exact key aX cn j _ aF
  ·
   refine aE rfl (fun K hK=>?_) rfl;go_simp;refine(aW _ (J.heap.size+1) A n c l 5 (U.1.cG (M:=fun _=>False) (Kn.drew) (fun _ _ h=>h)) ab ab).mono ?_;rintro e cl ⟨b6,rfl,aV,O,h,he⟩;obtain⟨j,rfl⟩:=JV aV;have bc:j<5:=ab;have t:Fr (fun b=>b=J.heap.size+1) wr cl:=Fr.aO he.fr;have k:=ai h (U.2.trans t);refine dW hK (he.fr) ?_;clear hK K;clear h he t aV O;refine tf ?_;refine bq ?_ ?_
   ·
    refine eZ ?_;refine bg (fun V=>Ext cl V∧af V cl.heap.size 5 #[.int .u8 bv]) ⟨Kn.alloc _,Ko⟩ (fun bI hV=>?_);have aA:=ai (k.1.cG hV.1 fun _ _ h=>h) (k.2.trans (hV.1.mono fun _ h=>h.elim));have gV:wr.heap.size≤cl.heap.size:=k.2.size;have aM:=ad hV.2;clear hV;obtain⟨e0,a5,aZ⟩:=aM.two;refine cf (v:=?_) rfl (by rfl) (fun V hV=>?_) ?_;rotate_left
    ·have bU:=e4 V (cl.heap.size) bv ((hV.cell aZ ab).trans (e0 0))
     (go_simp<;>with_reducible rfl)
    try simp only[PU]
    clear e0 a5 aZ
    iterate 2 refine tf ?_
    refine ao ?_;refine eZ ?_;refine bg (fun V=>Ext bI V∧af V bI.heap.size 136 #[.string ⟨#[]⟩,.int .i64 0]) ⟨Kn.alloc _,Ko⟩ (fun g7 hV=>?_);have a7:=ai (aA.1.cG hV.1 fun _ _ h=>h) (aA.2.trans (hV.1.mono fun _ h=>h.elim));have gW:wr.heap.size≤bI.heap.size:=aA.2.size;have ce:=ad hV.2;have gR:=ad (aM.ak hV.1);clear hV;have aF:=And.intro a7.1 (And.intro a7.2 (And.intro ce.o (And.intro (show a3≤bI.heap.size by omega) bc)));revert aF;generalize cl.heap.size=aX;generalize bI.heap.size=cn;intro aF;exact key aX cn j _ aF
   ·
    refine eZ ?_;refine bg (fun V=>Ext cl V∧af V cl.heap.size 136 #[.string ⟨#[]⟩,.int .i64 0]) ⟨Kn.alloc _,Ko⟩ (fun bJ hV=>?_);have aC:=ai (k.1.cG hV.1 fun _ _ h=>h) (k.2.trans (hV.1.mono fun _ h=>h.elim));have gX:wr.heap.size≤cl.heap.size:=k.2.size;have ch:=ad hV.2;clear hV;refine ao ?_;refine eZ ?_;refine bg (fun V=>Ext bJ V∧af V bJ.heap.size 5 #[.int .u8 bv]) ⟨Kn.alloc _,Ko⟩ (fun g1 hV=>?_);have am:=ai (aC.1.cG hV.1 fun _ _ h=>h) (aC.2.trans (hV.1.mono fun _ h=>h.elim));have fn:wr.heap.size≤bJ.heap.size:=aC.2.size;have bd:=ad hV.2;have bn:=ad (ch.ak hV.1);clear hV;obtain⟨e0,a5,aZ⟩:=bd.two;refine cf (v:=?_) rfl (by rfl) (fun V hV=>?_) ?_;rotate_left
    ·have bU:=e4 V (bJ.heap.size) bv ((hV.cell aZ ab).trans (e0 0))
     (go_simp<;>with_reducible rfl)
    try simp only[PU]
    clear e0 a5 aZ
    iterate 2 refine tf ?_
    have aF:=And.intro am.1 (And.intro am.2 (And.intro bn.o (And.intro (show a3≤cl.heap.size by omega) bc)));revert aF;generalize bJ.heap.size=aX;generalize cl.heap.size=cn;intro aF;exact key aX cn j _ aF
  ·
   refine eZ ?_;refine bg (fun V=>Ext wr V∧af V wr.heap.size 136 #[.string ⟨#[]⟩,.int .i64 0]) ⟨(Kn.alloc _).drew,Ko⟩ (fun T hV=>?_);have d:=ai (U.1.cG hV.1 fun _ _ h=>h) (U.2.trans (hV.1.mono fun _ h=>h.elim));have fK:wr.heap.size≤wr.heap.size:=U.2.size;have aD:=ad hV.2;clear hV;refine bq ?_ ?_
   ·
    refine eZ ?_;refine bg (fun V=>Ext T V∧af V T.heap.size 5 #[.int .u8 bv]) ⟨Kn.alloc _,Ko⟩ (fun gn hV=>?_);have an:=ai (d.1.cG hV.1 fun _ _ h=>h) (d.2.trans (hV.1.mono fun _ h=>h.elim));have f0:wr.heap.size≤T.heap.size:=d.2.size;have ae:=ad hV.2;have bp:=ad (aD.ak hV.1);clear hV;obtain⟨e0,a5,aZ⟩:=ae.two;refine cf (v:=?_) rfl (by rfl) (fun V hV=>?_) ?_;rotate_left
    ·have bU:=e4 V (T.heap.size) bv ((hV.cell aZ ab).trans (e0 0))
     (go_simp<;>with_reducible rfl)
    try simp only[PU]
    clear e0 a5 aZ;refine tf ?_;refine ao ?_;refine aE rfl (fun K hK=>?_) rfl;go_simp;refine(aW _ (J.heap.size+1) A n c l 5 (an.1.cG (M:=fun _=>False) Kn (fun _ _ h=>h)) ab ab).mono ?_;rintro e gG ⟨b6,rfl,aV,O,h,he⟩;obtain⟨j,rfl⟩:=JV aV;have bc:j<5:=ab;have t:Fr (fun b=>b=J.heap.size+1) gn gG:=he.fr;have aq:=ai h (an.2.trans t);have eL:=ad (ae.on t ab);have bu:=ad (bp.on t ab);refine dW hK (he.fr) ?_;clear hK K;clear h he t aV O
    iterate 2 refine tf ?_
    have aF:=And.intro aq.1 (And.intro aq.2 (And.intro bu.o (And.intro (show a3≤wr.heap.size by omega) bc)));revert aF;generalize T.heap.size=aX;exact wR
   ·
    refine aE rfl (fun K hK=>?_) rfl;go_simp;refine(aW _ (J.heap.size+1) A n c l 5 (d.1.cG (M:=fun _=>False) Kn (fun _ _ h=>h)) ab ab).mono ?_;rintro e W ⟨b6,rfl,aV,O,h,he⟩;obtain⟨j,rfl⟩:=JV aV;have bc:j<5:=ab;have t:Fr (fun b=>b=J.heap.size+1) T W:=he.fr;have L:=ai h (d.2.trans t);have bw:=ad (aD.on t ab);refine dW hK (he.fr) ?_;clear hK K;clear h he t aV O;refine tf ?_;refine ao ?_;refine eZ ?_;refine bg (fun V=>Ext W V∧af V W.heap.size 5 #[.int .u8 bv]) ⟨Kn.alloc _,Ko⟩ (fun g5 hV=>?_);have ay:=ai (L.1.cG hV.1 fun _ _ h=>h) (L.2.trans (hV.1.mono fun _ h=>h.elim));have gi:wr.heap.size≤W.heap.size:=L.2.size;have be:=ad hV.2;have bz:=ad (bw.ak hV.1);clear hV;obtain⟨e0,a5,aZ⟩:=be.two;refine cf (v:=?_) rfl (by rfl) (fun V hV=>?_) ?_;rotate_left
    ·have bU:=e4 V (W.heap.size) bv ((hV.cell aZ ab).trans (e0 0))
     (go_simp<;>with_reducible rfl)
    try simp only[PU]
    clear e0 a5 aZ
    iterate 2 refine tf ?_
    have aF:=And.intro ay.1 (And.intro ay.2 (And.intro bz.o (And.intro (show a3≤wr.heap.size by omega) bc)));revert aF;generalize W.heap.size=aX;exact wR
 case xZ=>
  exact Az
 ):p:=h
end BJ
open BJ in
theorem Iu(J:World)(gM:Value)(s:∀K,(∀a ac,Code.wp prog (m5 19) (bodyPost prog Tryz.f59 (j2 J)) a ac→K a ac)→DT J gM (bodyPost prog Tryz.f59 (j2 J)) K)
  (K:Act→World→Prop) (hK:∀a ac,Code.wp prog (m5 13) (bodyPost prog Tryz.f59 (j2 J)) a ac→K a ac):DS J gM (bodyPost prog Tryz.f59 (j2 J)) K:=by
 unfold DS;intro A n c l ar MA mn mc M hi hj gC gJ Z u8 gF eH cc gd ax bL b9 u16 gj gk eJ eK eM eP eQ eR eS eT eU eV eW eX eY u32 e3 e5 e6 e7 e8 e9 fa fb fd fe ff fh fi fj fk fl fm fo fp fq fr fs ft fu fv fw fx fy fz fA fB u64 fC fD fE fF fG fH fI fL fM fN fO fP fQ fR fS fT fU fV fW fX fY fZ f3 f4 f5 f6 f7 f8 f9 ga gb ge gf gg gh H ag aI aR a6 a9 bf bh bi bo bx bK bP bQ bY bZ b1 b2 b3 cb cd cj ck cm co cp cq cr ct cu cv cx cy cz cA cC cD cE cF cG cH cI cJ cK cL cM cN cO cP cQ cR cS cT cU cV cW cX cY cZ c4 c5 c6 c7 c8 c9 da db dd de dg dh di dj dk dl dm dn dp dq dr ds dt du dx dy dB dC dD dE dF dG dH dI dJ dK dM dN dO dP dQ dR dS dT dU dV dX dY dZ d0 d1 d2 d3 d4 d5 d6 d7 d8 d9 ea eb ec ed ee ef eg eh ei ej ek el em en eo ep eq er es et eu ev ew ex ey ez eA eB eC eF eG gl gm go gp gr gs gt gu gv gw gx gy gz gA gB w fJ aY;have a2:=ad (aY.Iu fJ);have gP:=ad s;obtain⟨I,g0⟩:∃I,I=w.heap.size:=⟨_,rfl⟩
 rw[←g0] at a2;clear aY s g0;conv=>arg 2;whnf
 conv at hK=>enter [a,w,1,2];whnf
 obtain⟨a0,ap,ak⟩:=a2.blk.two;go_wp2_with(fail);refine(aW w (J.heap.size+1) A n c l 3 a2.src ab ab).mono ?_;rintro e aN ⟨b5,rfl,aJ,bF,h,he⟩;obtain⟨N,rfl⟩:=JV aJ;have g6:N<3:=ab;have gQ:=ad (a2.next h he.fr);clear h he a0 ap ak a2 aJ bF;go_wp2_with(fail);go_loopw [7,8] (fun bC cg wr=>∃(i:Nat) (GA:Kr) (gc:Nat) (G:List (ByteArray×Int)) (o:Kr) (u:Nat),cg=.int .i64 i∧bC=.slice o i u∧i≤N∧wD J I wr A n c l ar MA mn mc M GA i gc G o u) (fun _ cg _=>N - (intOf cg).toNat)
 case atStart=>exact⟨0,none,0,[],none,0,rfl,rfl,ab,gQ.o⟩
 case round=>
  obtain⟨i,GA,gc,G,o,u,rfl,rfl,al,aY⟩:=hrel;clear gQ;have b4:=ad aY;obtain⟨a0,ap,ak⟩:=aY.blk.two;have bN:G.length=i:=by have:=aY.rows.one.len;simpa using this
  have hD:=aY.hD;clear aY;by_cases aw:i<N
  ·have g:(i:Int)<(N:Int):=ab;have aT:i≤1:=ab;have gK:¬J.heap.size+1+1=J.heap.size+1:=ab;have bT:J.heap.size+1+1<wr.heap.size:=b4.blk.lt;go_upto_region 17 with(fail);exact zl
  ·have g:¬(i:Int)<(N:Int):=ab;go_upto_region 19 with(fail);have fg:=gP.o _ (by assumption);unfold DT at fg;exact fg I A n c l ar MA mn mc M GA i gc G o u wr b4.o
end Go.Proofs.YtbkhhfajcgkpgaaGreat

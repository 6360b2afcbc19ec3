/- Part 35 of the proof. No condition of its own. -/
import Derived.Test.YtnhhdaggkiomoaaGreatQ34
namespace Go.Proofs.YtnhhdaggkiomoaaGreat
open Go.RowKit Go.Proofs.Tryz
set_option maxRecDepth 1000000
set_option maxHeartbeats 25600000
set_option linter.unusedVariables false
variable{p:Prop}
namespace BH
theorem po(h:p:=by
 exact gY.simple (st:=.ret) ⟨s,wb,sA,bL,bD,sl,GA,gn,gc,MA,mn,mc,FA,fn,fc,M,F,ar⟩ ck B bP bv d ps V T ls N L aw aZ QA cq qc bx a7.1 bX eN a7.2.2.2.1 cc.1 cg bV aR (cx.1.fresh a7.1 J fun b O=>ad) bA (eC l5 kG (Sl.bO _) (KG _) (Sl.bO _) (KG _) (Sl.bO _) (KG _)) trivial (fun n hn=>by simp[aA.all] at hn) (by simp only[aA.num];omega) (KG _) bl.2.2 a7.2.1
 ):p:=h
theorem lH(h:p:=by
 first
  | subst bG
    have cx:=bR
  | revert bJ
    intro bJ;have dH:decide ((bi:Int) > 0)=false:=by simp;omega
    have cD:¬(0:Int)<(bi:Int):=ad;clear bJ
    have cx:=bR
  | have cy:S.heap.size<wr.heap.size:=bR.2.2.lt
    go_wp2_with(fail);refine(a2 wr s sA bL bD sl 3 bR.1.src ad ad).mono ?_;rintro e wr ⟨cv,rfl,a3,bU,h,he⟩;have aj:=he.fr;have cx:=aB (bR.1.next bf h aj) (bR.2.1.on aj ad) (bR.2.2.on aj ad);clear a0 ai af a8 am aF d0 aL aM h he aj a3 bU;by_cases ap:cv=1
    case pos=>
     have q:(cv == 1)=true:=by simpa using ap
     clear ap;obtain⟨d0,aL,aM⟩:=cx.2.2.two;go_wp2_with(fail);generalize hX:World.setCell _ _ _=X;have J:=cL hX;have bA:aq X S.heap.size 180 #[.int .i64 9,.string ⟨#[]⟩,.int .i64 0,.int .i64 0,.string ⟨#[]⟩,.slice none 0 0,.string ⟨#[]⟩,.slice none 0 0,.slice none 0 0,.slice none 0 0,.slice none 0 0]:=hX▸cx.2.2.aM 0 _;exact pk
    have q:(cv == 1)=false:=by simpa using ap
    clear ap;obtain⟨a0,ai,af⟩:=cx.1.blk.two;obtain⟨a8,am,aF⟩:=cx.2.1.two;obtain⟨d0,aL,aM⟩:=cx.2.2.two
 go_wp2_with(fail);refine(qM ⟨s,wb,sA,bL,bD,sl,GA,gn,gc,MA,mn,mc,FA,fn,fc,M,F,ar⟩ L aI au bi ba aZ ps QA cq qc bx wr (cx.1.wr a7.1) ((Sl.c4 a7.2.2.2.2.1 cx.1.fr).mono fun b O=>⟨O.1,fun h=>O.2 (.inl h)⟩) ad ((Sl.c4 a7.2.2.1 cx.1.fr).mono fun b O=>⟨O.1,fun h=>O.2 (.inl h)⟩) bK).mono ?_;rintro e aT ⟨r,IA,i,ic,rfl,bn,aN,ax,ay,aj⟩;simp only at bn ay aj;have bM:S.heap.size<wr.heap.size:=cx.2.2.lt;have l:=cx.2.2.on aj ad;have aP:=cx.2.1.on aj ad;have aW:=hR (cx.1.next bf ay aj) l aP (bn (F.map fun f=>(f.name,f.params))) aN ax aj.size;clear a0 ai af a8 am aF d0 aL aM bn aN ax ay aj aP;obtain⟨d0,aL,aM⟩:=l.two;clear l;go_upto_region 10 with(fail);generalize hX:World.setCell _ _ _=X;have J:=EW hX;have bo:aq X S.heap.size 180 #[.int .i64 5,.string ⟨#[]⟩,.int .i64 0,.int .i64 0,.string ⟨#[]⟩,.slice none 0 0,.string r.name,.slice IA i ic,.slice none 0 0,.slice none 0 0,.slice none 0 0]:=hX▸(aW.2.1.aM 6 _).aM 7 _;have cj:Sl X (fresh wr X) IA i (r.idx.toList.map bk):=(aW.2.2.2.2.2.1.ak fun b O=>J.block b O.2 (aD O.1)).mono fun b O=>⟨O.1,by have:=O.2;have:=J.size;omega⟩
 have aQ:=cI (aW.1.fresh a7.1 J fun b O=>ad) bo (aW.2.2.1.on J ad) cj (by have:=J.size;have:=aW.2.2.2.2.2.2;omega:wr.heap.size≤X.heap.size);clear hX d0 aL aM J bo cj;obtain⟨d0,aL,aM⟩:=aQ.2.1.two;go_upto_region 11 with(fail);generalize hU:World.alloc _ _=U;have cl:=aU hU;have bZ:=aG hU;have bH:=aQ.1.ai bf cl;have cb:Gr (fun b=>(B≤b∧(Value.slice au bi ba).ownBlock≠some b)∧b≠S.heap.size) B 180 11 U bq on b7 (ls.map bg):=(a7.2.2.2.1.two.mono fun b ac av=>⟨av,ad⟩).c4 bH.fr fun b O hl=>⟨fun h=>by have:=a7.2.2.2.2.2 b O;have:=h.1.1;omega,a7.2.2.2.2.2 b O⟩
 have a5:Gr (fun _=>False) B 9 1 U au bi ba (aI.map D.s):=(Gr.strs a7.2.2.2.1.one).c4 bH.fr fun b O hl=>⟨fun h=>h,a7.2.2.2.2.2 b O⟩
 have j:∀b,(Value.slice au bi ba).ownBlock=some b→b<S.heap.size:=fun b O=>(a7.2.2.2.1.one.lt O).2;have m:∀b,(Value.slice bq on b7).ownBlock=some b→B≤b∧b<S.heap.size:=fun b O=>a7.2.2.2.1.two.lt O;have aE:∀b,(Value.slice au bi ba).ownBlock=some b→(Value.slice bq on b7).ownBlock≠some b:=a7.2.2.2.1.ne;have cG:X.heap.size<U.heap.size:=bZ.lt;have aY:wr.heap.size≤X.heap.size:=aQ.2.2.2.2;have b1:Sl U (fun b=>wr.heap.size≤b∧b<X.heap.size) IA i (r.idx.toList.map bk):=aQ.2.2.2.1.ak fun b O=>cl.block b O.2 fun h=>h;have hD:(bg (.lock false r)).rep U (lv (fun b=>(B≤b∧(Value.slice au bi ba).ownBlock≠some b)∧b≠S.heap.size) U (.slice bq on b7)) [.int .i64 5,.string ⟨#[]⟩,.int .i64 0,.int .i64 0,.string ⟨#[]⟩,.slice none 0 0,.string r.name,.slice IA i ic,.slice none 0 0,.slice none 0 0,.slice none 0 0]:=by
  refine eC l5 (jw.2 ⟨IA,i,ic,rfl,aW.2.2.2.2.1,b1.mono fun b O=>⟨⟨⟨by have:=O.1;omega,fun h=>by have:=j b h;have:=O.1;omega⟩,by have:=O.1;omega⟩,by have:=O.2;omega,fun h=>by have:=(m b h).2;have:=O.1;omega⟩⟩) (Sl.bO _) (KG _) (Sl.bO _) (KG _) (Sl.bO _) (KG _)
 have cz:=pe bH (aQ.2.1.ai cl) (aQ.2.2.1.ai cl) bZ cb a5 b1 hD;have br:=aB j m aE;have b0:B≤U.heap.size:=ad;have ah:B≤X.heap.size:=ad;clear hU cl bZ bH cb a5 b1 hD j m aE d0 aL aM;obtain⟨d0,aL,aM⟩:=cz.2.1.two;obtain⟨a8,am,aF⟩:=cz.2.2.1.two;go_upto_region 12 with(at_builtin;refine bQ oD rfl (.tmp 59) (.tmp 61) rfl cz.2.2.2.2.1 cz.2.2.2.2.2.2.2 rfl rfl rfl ad ad b0 ?_;intro b3 bm b6 bB az al b9;have bd:=aB bB az al;clear bB az al b9 d0 aL aM);obtain⟨ds,ao,bw⟩:=bd.o;obtain⟨j,m,aE⟩:=br.o;have ct:aw.heap.size<B:=ad;have bF:¬(Value.slice bq on b7).ownBlock=some X.heap.size:=fun h=>by have:=(m _ h).2;omega
 have a9:¬(Value.slice bq on b7).ownBlock=some S.heap.size:=fun h=>by have:=(m _ h).2;omega
 have Z:¬(Value.slice bq on b7).ownBlock=some ck:=fun h=>by have:=(m _ h).1;omega
 have bh:oA ⟨s,wb,sA,bL,bD,sl,GA,gn,gc,MA,mn,mc,FA,fn,fc,M,F,ar⟩ aw b6 L:=(oA.mk cz.1.src cz.1.blk (bl.2.2.trans cz.1.fr) cz.1.le).fresh bl.1 ao fun b O=>by have:=(m b O).1;omega
 have bO:=cz.2.2.2.2.2.1.dj ao.size fun b ak hp=>ao.block b ak (hp.elim (fun h=>h.elim) fun hp=>aE b hp);have e2:Sl b6 (fun b=>wr.heap.size≤b∧b<X.heap.size) IA i (r.idx.toList.map bk):=cz.2.2.2.2.2.2.1.ak fun b O=>ao.block b (aD O.2) fun h=>by have:=(m b h).2;have:=O.1;omega
 have bT:=hR bh (cz.2.1.on ao a9) (cz.2.2.1.on ao Z) (cz.2.2.2.1.on ao bF) ds bO e2;have ab:∀b,(Value.slice b3 (on+1) bm).ownBlock=some b→(B≤b∧b<S.heap.size∧(Value.slice bq on b7).ownBlock=some b)∨U.heap.size≤b:=fun b O=>(bw b O).imp (fun h=>⟨(m b h).1,(m b h).2,h⟩) id;have a6:=ag ab ao.size;clear ds ao bw j m aE bF a9 Z bh bO e2 ab cz bd a8 am aF;obtain⟨a8,am,aF⟩:=bT.2.2.1.two;have hi:Sl b6 (off (fun b=>b=s∨b=wb) b6) au bi (aI.map D.s):=bT.2.2.2.2.2.1.sl (fun _ _ h=>h.elim) (fun b O aR=>⟨O,fun h=>ad⟩);go_wp2_with(fail);refine(cc.2.2 L ad 0 2 aI (T++decls ls) au bi ba aZ ps QA cq qc bx b6 ad ad (bT.1.wr bl.1) hi ad (fun k ap=>cc.2.1 k ad) (Sl.c4 bl.2.1 bT.1.fr) bK).mono ?_;rintro e cN ⟨R,bu,cC,aO,bS,rfl,aC,cK,cn,cd,aa⟩
 try simp only at aa
 clear a8 am aF hi;have be:=aC.le;have co:L≤24:=bT.1.le;have cA:aO≤48:=by
  have ac:=aC.num;have av:=tT R;have aV:=cn.1;simp only[KK] at aV;omega
 have ab:=a6.1;have cF:=a6.2;have P:∀b,(b=s∨b=wb)→b<aw.heap.size:=fun b O=>by
  have ac:=bl.1.src.lt;have av:=bl.1.blk.lt;simp only at ac av;rcases O with O|O<;>omega
 have ct:aw.heap.size<B:=ad;have cf:=bT.2.2.2.2.1.c4 aa fun b O hl=>⟨fun h=>by have:=P b O;have:=h.1.1;omega,by have:=P b O;omega⟩
 have bW:=bT.2.2.2.2.2.1.c4 aa fun b O hl=>⟨fun h=>h,by have:=P b O;omega⟩
 have ch:Sl cN (fun b=>wr.heap.size≤b∧b<X.heap.size) IA i (r.idx.toList.map bk):=bT.2.2.2.2.2.2.ak fun b O=>aa.block b (aD O.2) fun h=>by have:=P b h;have:=O.1;omega
 have b5:=br.1;have bp:Sl cN (lv (fun b=>(B≤b∧(Value.slice au bi ba).ownBlock≠some b)∧b≠S.heap.size) cN (.slice b3 (on+1) bm)) cC aO (R.map bg):=cn.mono fun b O=>⟨⟨⟨by have:=O.1;omega,fun h=>by have:=b5 b h;have:=O.1;omega⟩,by have:=O.1;omega⟩,O.2,fun h=>by
  have ac:=O.1;rcases ab b h with av|av
  ·omega
  ·have:=(bT.2.2.2.2.1.lt h).2;omega⟩
 have b8:=xd (bT.1.Ht cd aa) (bT.2.1.on aa fun h=>by have:=P _ h;omega) (bT.2.2.1.on aa fun h=>by have:=P _ h;omega) (bT.2.2.2.1.on aa fun h=>by have:=P _ h;omega) cf bW ch bp aC;have bt:∀d∈R.map bg,d.sz=11:=fun d hd=>by obtain⟨x,_,rfl⟩:=Lf.1 hd;exact vN x
 have ce:B≤cN.heap.size:=by have:=aa.size;omega
 have aJ:U.heap.size≤cN.heap.size:=by have:=aa.size;omega
 clear aC cK cn cd aa cf bW ch bp bT ab b5;go_upto_region 13 with(at_builtin;refine w3 oD rfl (.tmp 63) (.tmp 67) rfl b8.2.2.2.2.1 b8.2.2.2.2.2.2.2.1 bt rfl rfl ad ad ce ?_;intro cm bN c6 bB az al b9;have dw:=aB bB az al;clear bB az al b9);obtain⟨bj,aK,bC⟩:=dw.o;have ab:=a6.1;obtain⟨j,m,aE⟩:=br.o;have a1:∀b,(Value.slice au bi ba).ownBlock=some b→(Value.slice b3 (on+1) bm).ownBlock≠some b:=fun b O h=>by
  rcases ab b h with av|av
  ·exact aE b O av.2.2
  ·have:=j b O;omega
 have bF:¬(Value.slice b3 (on+1) bm).ownBlock=some X.heap.size:=fun h=>by rcases ab _ h with av|av<;>omega
 have a9:¬(Value.slice b3 (on+1) bm).ownBlock=some S.heap.size:=fun h=>by rcases ab _ h with av|av<;>omega
 have Z:¬(Value.slice b3 (on+1) bm).ownBlock=some ck:=fun h=>by rcases ab _ h with av|av<;>omega
 have ca:=b8.1.fresh bl.1 aK fun b O=>by rcases ab _ O with av|av<;>omega
 have bY:=b8.2.2.2.2.2.1.dj aK.size fun b ak hp=>aK.block b ak (hp.elim (fun h=>h.elim) fun hp=>a1 b hp);have ci:Sl c6 (fun b=>wr.heap.size≤b∧b<X.heap.size) IA i (r.idx.toList.map bk):=b8.2.2.2.2.2.2.1.ak fun b O=>aK.block b (aD O.2) fun h=>by have ac:=O.1;have aV:=O.2;rcases ab _ h with av|av<;>omega
 have z:=hR ca (b8.2.1.on aK a9) (b8.2.2.1.on aK Z) (b8.2.2.2.1.on aK bF) bj bY ci;have aS:∀b,(Value.slice cm (on+1+aO) bN).ownBlock=some b→(B≤b∧b<S.heap.size∧(Value.slice bq on b7).ownBlock=some b)∨U.heap.size≤b:=fun b O=>by
  rcases bC b O with ac|ac
  ·exact ab b ac
  ·exact .inr ad
 have cp:=ae aS;clear bj aK bC ab j m aE a1 bF a9 Z ca bY ci aS dw;obtain⟨d0,aL,aM⟩:=z.2.1.two;obtain⟨bs,aX,a4⟩:=z.2.2.2.1.two;go_wp2_with(fail);generalize cr:World.setCell _ _ _=Y;have b2:aw.heap.size≤S.heap.size:=bl.2.2.size;obtain⟨bI,bE,bz⟩:=dU (M:=fun b=>b=s∨b=wb) (w:=aw) [.int .i64 6,.string ⟨#[]⟩,.int .i64 0,.int .i64 0,.string ⟨#[]⟩,.slice none 0 0,.string r.name,.slice IA i ic,.slice none 0 0,.slice none 0 0,.slice none 0 0] (by rfl) z.2.1 z.1.fr b2 cr;have j:=br.1;have aS:=cp.o;have rD:=z.2.2.2.2.2.1;have cW:=z.2.2.2.2.1;have aC:=b8.2.2.2.2.2.2.2.2;have cw:Sl Y (fun b=>wr.heap.size≤b∧b<X.heap.size) IA i (r.idx.toList.map bk):=z.2.2.2.2.2.2.ak fun b O=>bz.block b (lK O.2 z.2.2.2.1.lt) (aD O.1);have cZ:c6.heap.size≤Y.heap.size:=bz.size;have cE:X.heap.size<c6.heap.size:=z.2.2.2.1.lt
 try refine hN _ _ ?_
 unfold lF;refine⟨au,bi,ba,cm,on+1+aO,bN,?_⟩
 iterate 240 apply Exists.intro
 refine⟨?_,rfl⟩;refine⟨aI,.lock false r::R,.lock true r,bu,_,z.1.fresh bl.1 bz (fun b O=>ad),z.2.2.1.on bz ad,⟨?_,?_,fun b O h=>?_⟩,bI,?_,E4 aW.2.2.2.1 cc.1 aC.wf,?_,?_,be,?_,ad,ad⟩
 ·exact Gr.strs (rD.dj bz.size fun b ak hp=>bz.block b ak (hp.elim (fun h=>h.elim) fun hp=>by have:=j b hp;omega))
 ·have ac:=(cW.dj bz.size fun b ak hp=>bz.block b ak (by
   rcases hp with hp|hp
   ·exact hp.2
   ·rcases aS b hp with av|av<;>omega)).mono fun b _ hp=>hp.1
  have he:(ls++(aA.lock false r::R)).map bg=(ls.map bg++[bg (.lock false r)])++R.map bg:=by simp
  rw[he];exact ac
 ·rcases aS b h with av|av
  ·exact br.2.2 b O av.2.2
  ·have:=j b O;omega
 ·exact eC l5 (jw.2 ⟨IA,i,ic,rfl,aW.2.2.2.2.1,cw.mono fun b O=>⟨⟨by have:=O.1;omega,fun h=>by have:=j b h;have:=O.1;omega⟩,by have:=O.2;omega,fun h=>by have ac:=O.1;have aV:=O.2;rcases aS b h with av|av<;>omega⟩⟩) (Sl.bO _) (KG _) (Sl.bO _) (KG _) (Sl.bO _) (KG _)
 ·intro n hn;rw[KV,all_cons,xp,all_cons] at hn;simp only[aA.all,an.eM,an.all,Lh,Lg] at hn;obtain⟨k,ac,av,aV⟩:=aC.all n hn;exact⟨k,ac,ad,aV⟩
 ·rw[KV,kD,xN,sX];have:=aC.num;simp only[aA.num];omega
 ·intro y bb;have:=cc.1 bb;exact zN
 ):p:=h
end BH
open BH in
theorem xY(k:Int)(d bi:Nat)(h:k=8∧bi=0∨k=11∧d=0∨k=12∧d=0∨k=13):SK k d bi:=by
 rcases h with⟨rfl,bJ⟩|⟨rfl,bG⟩|⟨rfl,bG⟩|rfl
 all_goals
  exact lG
namespace BI
theorem po(h:p:=by
 have b6:=bZ.o;subst b6;exact gY.simple (st:=.call bb g.name a1) ⟨s,wb,sA,bL,bD,sl,GA,gn,gc,MA,mn,mc,_,fn,fc,M,F,ar⟩ ck B bP bv d ps V T ls N L aw aZ QA cq qc bx a7.1 bX eN a7.2.2.2.1 cc.1 cg bV aR (an.fresh a7.1 J fun b O=>ad) bA (eC l5 kG ((ct.ak fun b O=>J.block b O.2 (aD O.1)).mono fun b O=>⟨by have:=O.1;omega,by have:=O.2;omega⟩) aO (Sl.bO _) (KG _) (Sl.bO _) (KG _)) ⟨g.params,Lf.2 ⟨g,bY.o,rfl⟩,nH cc.1 _ _ (bn _)⟩ (fun n hn=>by simp[aA.all] at hn) (by simp only[aA.num];omega) (KG _) bl.2.2 a7.2.1
 ):p:=h
theorem sk(h:p:=by
 refine aE ?_;generalize bC:World.setCell _ _ _=Y;have J:=EW bC;have bA:aq Y S.heap.size 180 #[.int .i64 b0,.string g.name,.int .i64 0,.int .i64 0,.string ⟨#[]⟩,.slice none 0 0,.string ⟨#[]⟩,.slice none 0 0,.slice KA k kc,.slice none 0 0,.slice none 0 0]:=bC▸(aW.2.1.aM 1 _).aM 8 _;clear bC d0 aL aM;go_wp2_with(fail);obtain⟨an,_,bn,aO,ct,bO⟩:=aW.o;have bC:=J.size;exact pk
 ):p:=h
theorem eQ(h:p:=by
 refine b3 ?_;generalize bu:World.setCell _ _ _=Z;obtain⟨bh,a9,be⟩:=dU (M:=fun b=>b=s) [.string g.name,.slice bS bB bQ,.slice H bg I] (by rfl) dI aj gs bu;have bM:S.heap.size<X.heap.size:=aQ.2.1.lt;have ch:s<X.heap.size:=ad;have bW:cm Z s sA bL bD sl:=ay.cQ be fun b O h=>ad;have bt:=aQ.1.next bf bW a9;have bd:=cT bt (aQ.2.1.on a9 ad) (aQ.2.2.1.on a9 ad) bh bE bJ;have ca:¬az=s:=ad;have bj:=a9.size;clear bu bh a9 be bW bt bE bJ aj ay dI bs aX a4;obtain⟨a8,am,aF⟩:=bd.2.2.1.two;obtain⟨bs,aX,a4⟩:=bd.2.2.2.1.two;have b9:¬ck=s:=ad;have bG:bB≤2:=by
  have ac:=bd.2.2.2.2.2.1;have av:=bz g bd.2.2.2.2.1;simp at ac;omega
 go_upto_region 28 with(fail);refine eK (fun b=>b=s) [(0,3),(1,0),(2,3),(3,0),(4,0),(5,3),(7,3),(6,1),(8,2),(9,3),(10,2)] ?_;refine pf ?_;refine ow ?_;refine pf ?_
 iterate 2 refine ow ?_
 iterate 2 refine pf ?_
 refine aJ rfl (fun K hK=>?_);go_simp;refine(yQ ⟨s,wb,sA,bL,bD,sl,GA,gn,gc,MA,mn,mc,_,fn,fc,M,F,ar⟩ L aI au bi ba aZ ps QA cq qc bx g.name g.params bS bB bQ (.slice H bg I) Z.drew ((bd.1.ai bf Lo.drew).wr a7.1) ((Sl.c4 a7.2.2.2.2.1 (bd.1.ai bf Lo.drew).fr).mono fun b O=>⟨O.1,fun h=>O.2 (.inl h)⟩) ad ((Sl.c4 a7.2.2.1 (bd.1.ai bf Lo.drew).fr).mono fun b O=>⟨O.1,fun h=>O.2 (.inl h)⟩) bK ((Sl.c4 bd.2.2.2.2.2 (bd.1.ai bf Lo.drew).fr).mono fun b O=>⟨O.1,fun h=>O.2 (.inl h)⟩) bG).mono ?_;rintro e aT ⟨a1,KA,k,kc,rfl,bn,aO,ct,ay,aj⟩;simp only at bn ay aj;have U:Fr (fun b=>b=s) Z aT:=Fr.aF aj;have l:=bd.2.1.on U ad;have aW:=cT (bd.1.next bf ay U) l bn aO ct U.size;have bY:=ae bd.2.2.2.2.1;have b8:X.heap.size≤Z.drew.heap.size:=bj;refine dz hK (aj) ?_;clear hK K;clear a8 am aF bs aX a4 aj ay ct aO bn U;obtain⟨d0,aL,aM⟩:=l.two;clear l;exact sj
 ):p:=h
theorem lH(h:p:=by
 have bI:=a7.1.nf;have bz:=a7.1.jy;simp only at bI bz;have gP:¬wb=s:=ad;obtain⟨b1,c6,bk,_⟩:=a7.1.fs.some_ bI.1;simp only at bk;subst bk;go_upto_region 27 with(fail);generalize hX:World.setCell _ _ _=X;have J:Fr (fun b=>b=S.heap.size) wr X:=by rw[←hX];first|exact(Fr.refl (fun b=>b=S.heap.size) wr).setCell (.inl rfl) _|exact((Fr.refl (fun b=>b=S.heap.size) wr).setCell (.inl rfl) _).setCell (.inl rfl) _
 have bo:aq X S.heap.size 180 #[.int .i64 b0,.string ⟨#[]⟩,.int .i64 0,.int .i64 0,.string ⟨#[]⟩,.slice none 0 0,.string ⟨#[]⟩,.slice none 0 0,.slice none 0 0,.slice none 0 0,.slice none 0 0]:=by rw[←hX,aB.o];first|exact(bR.2.2.aM 0 _)|exact(bR.2.2.aM 0 _).aM 0 _
 have ab:=bR.1.fresh a7.1 J fun b O=>ad;have br:=bR.2.1.on J ad;have aQ:=bH ab bo br J.size;clear hX a0 ai af a8 am aF d0 aL aM J bo ab br;obtain⟨a0,ai,af⟩:=aQ.1.blk.two;refine q4 (fun b=>b=s) [19] (.free 0 (.free 1 (.free 2 (.free 3 (.held 4 (.free 5 (.free 6 (.free 7 (.held 8 (.free 9 (.free 10 (.free 11 (.free 12 (.held 13 (.free 14 (.pick [15,18] (fun i=>bif i == 15 then .free 16 (.held 17 (.pick [18] (fun _=>.pick [19] (fun _=>.stop)))) else .pick [15] (fun _=>.free 16 (.held 17 (.pick [19] (fun _=>.stop))))))))))))))))))))) ?_
 iterate 4 refine tf ?_
 refine mV ?_
 iterate 3 refine tf ?_
 refine mV ?_
 iterate 4 refine tf ?_
 refine mV ?_;refine tf ?_;clear a0 ai af;refine gU (P:=?_) (ops:=?_) (Q:=?_) (R:=?_) (tails:=?_) (rest:=.pick [19] (fun _=>.stop)) (aa:=?_)
  (C:=fun(az:Nat) (j:Nat) (ap:Value) bT=>Fr (fun b=>b=s) X bT∧cm bT s sA bL bD sl∧aq bT az 143 #[.string ⟨#[]⟩,.slice none 0 0,.slice none 0 0]∧X.heap.size≤az∧∃(g:aK) (bS:Ls) (bB bQ:Nat) (H:Ls) (bg I:Nat),ap=.agg #[.string g.name,.slice bS bB bQ,.slice H bg I]∧g∈F∧Sl S (off (fun b=>b=s∨b=wb) S) bS bB (g.params.map ds)) (fun key=>?_) ?_
 rotate_left 6
 ·
  refine aY ?_ ?_
  ·
   refine aC rfl (fun K hK=>?_) rfl;go_simp;refine(a2 X.drew s sA bL bD sl fn (aQ.1.ai bf Lo.drew).src ad ad).mono ?_;rintro e aS ⟨cv,rfl,a3,bU,h,he⟩;obtain⟨j,rfl⟩:=KL a3;have aV:j<fn:=ad;have aj:Fr (fun b=>b=s) X aS:=Fr.aF he.fr;have y:Fr (fun b=>b=s∨b=wb) S aS:=aQ.1.fr.trans (aj.mono fun _ h=>.inl h);refine dz hK (he.fr) ?_;clear hK K;obtain⟨bm,b2,g,cs,m,cx,r,aP,bp,hc⟩:=Sl.gZ (z:=3) a7.1.fs (fun _=>rfl) (k:=j) (by simpa using aV);injection m with m;injection m with hFA1 hFA2;subst hFA1 hFA2;obtain⟨bS,bB,bQ,H,bg,I,rfl,bF,bJ⟩:=Ef aP;have e0:=(y.cell cx.1 cx.2).trans (hc 0 _ rfl);have e1:=(y.cell cx.1 cx.2).trans (hc 1 _ rfl);have e2:=(y.cell cx.1 cx.2).trans (hc 2 _ rfl);simp only[KQ] at e0;have cf:b1<aS.heap.size:=by have:=y.size;have:=cx.1;omega
   have cj:¬b1=s:=fun h=>cx.2 (.inl h);have cl:(0:Int)≤(j:Int):=ad;have cK:(j:Int)<(fn:Int):=ad;have a6:=KJ r;skip
   refine tf ?_;refine JQ ?_;refine ao ?_;refine dP ?_;generalize bu:World.alloc _ _=Z;have e3:=aU bu;have ah:Fr (fun b=>b=s) X Z∧cm Z s sA bL bD sl∧aq Z aS.heap.size 143 #[.string ⟨#[]⟩,.slice none 0 0,.slice none 0 0]∧X.heap.size≤aS.heap.size∧∃(ag:aK) (al:Ls) (G a5:Nat) (ak:Ls) (aN aG:Nat),(Value.agg #[.string g.name,.slice bS bB bQ,.slice H bg I])=.agg #[.string ag.name,.slice al G a5,.slice ak aN aG]∧ag∈F∧Sl S (off (fun b=>b=s∨b=wb) S) al G (ag.params.map ds):=
    ⟨aj.trans (e3.mono fun _ h=>h.elim),h.cQ e3 fun _ _ h=>h,by rw[←bu];exact Lp,aj.size,g,bS,bB,bQ,_,_,_,rfl,a6,bJ⟩
   clear bu e3 bJ aP bp hc e0 e1 e2;revert ah;generalize aS.heap.size=az;generalize (Value.agg #[.string g.name,.slice bS bB bQ,.slice H bg I])=ap;intro ah;exact key az j ap _ ah
  ·
   refine dP ?_;generalize hV:World.drew (World.alloc _ _)=cC;have e1:=gF hV;have cE:=kp hV;have cn:=cE.lt;refine ao ?_;refine aC rfl (fun K hK=>?_) rfl;go_simp;refine(a2 cC s sA bL bD sl fn (aQ.1.ai bf e1).src ad ad).mono ?_;rintro e aS ⟨cv,rfl,a3,bU,h,he⟩;obtain⟨j,rfl⟩:=KL a3;have aV:j<fn:=ad;have aj:Fr (fun b=>b=s) X aS:=(e1.mono fun _ h=>h.elim).trans he.fr;have y:Fr (fun b=>b=s∨b=wb) S aS:=aQ.1.fr.trans (aj.mono fun _ h=>.inl h);have dM:s<X.heap.size:=by have:=aQ.2.2.2;omega
   refine dz hK (he.fr) ?_;clear hK K;obtain⟨bm,b2,g,cs,m,cx,r,aP,bp,hc⟩:=Sl.gZ (z:=3) a7.1.fs (fun _=>rfl) (k:=j) (by simpa using aV);injection m with m;injection m with hFA1 hFA2;subst hFA1 hFA2;obtain⟨bS,bB,bQ,H,bg,I,rfl,bF,bJ⟩:=Ef aP;have e0:=(y.cell cx.1 cx.2).trans (hc 0 _ rfl);have e1:=(y.cell cx.1 cx.2).trans (hc 1 _ rfl);have e2:=(y.cell cx.1 cx.2).trans (hc 2 _ rfl);simp only[KQ] at e0;have cf:b1<aS.heap.size:=by have:=y.size;have:=cx.1;omega
   have cj:¬b1=s:=fun h=>cx.2 (.inl h);have cl:(0:Int)≤(j:Int):=ad;have cK:(j:Int)<(fn:Int):=ad;have a6:=KJ r;skip
   refine tf ?_;refine JQ ?_;have ah:Fr (fun b=>b=s) X aS∧cm aS s sA bL bD sl∧aq aS X.heap.size 143 #[.string ⟨#[]⟩,.slice none 0 0,.slice none 0 0]∧X.heap.size≤X.heap.size∧∃(ag:aK) (al:Ls) (G a5:Nat) (ak:Ls) (aN aG:Nat),(Value.agg #[.string g.name,.slice bS bB bQ,.slice H bg I])=.agg #[.string ag.name,.slice al G a5,.slice ak aN aG]∧ag∈F∧Sl S (off (fun b=>b=s∨b=wb) S) al G (ag.params.map ds):=
    ⟨aj,h,cE.on he.fr ad,KG _,g,bS,bB,bQ,_,_,_,rfl,a6,bJ⟩
   clear hV bJ aP bp hc e0 e1 e2;revert ah;generalize (Value.agg #[.string g.name,.slice bS bB bQ,.slice H bg I])=ap;intro ah;exact key X.heap.size j ap _ ah
 ·
  rintro az j ap bT ⟨aj,ay,dI,gs,g,bS,bB,bQ,H,bg,I,rfl,bE,bJ⟩;obtain⟨bs,aX,a4⟩:=dI.two;exact fj
 ):p:=h
end BI
open BI in
theorem Ew(bb:Bool)(k:Int)(d bi:Nat)(h:bb=false∧k=9∨bb=true∧k=10):SK k d bi:=by
 obtain⟨b0,bw⟩:∃b0:Int,b0=if bb then 4 else 3:=⟨_,rfl⟩
 have bZ:=ae bw;rcases h with⟨O,rfl⟩|⟨O,rfl⟩
 all_goals
  rw[O] at bw;have aB:=ae bw;clear bw O;exact lG
namespace BJ
theorem po(h:p:=by
 exact gY.simple (st:=.ite x (.eM R) .nil) ⟨s,wb,sA,bL,bD,sl,GA,gn,gc,MA,mn,mc,FA,fn,fc,M,F,ar⟩ ck B bP bv d ps V T ls N L aw aZ QA cq qc bx a7.1 bX eN a7.2.2.2.1 cc.1 cg bV aR bT.1 bA (eC (a1.2 ⟨cO,cG,cV,rfl,aW.2.2.2.1,bT.2.2.2.1⟩) kG (Sl.bO _) (KG _) bT.2.2.2.2 bm.2.2.2.1 (Sl.bO _) (KG _)) ⟨i,j.1,dK cc.1 2 x aW.2.2.1,(dd _ i i aI _ _ _ cc.1 (fun _ _ h=>h) (KG _) bm.2.2.1.wf),mZ⟩ (fun n hn=>by simp only[aA.all,an.all,Lg] at hn;obtain⟨k,ac,av,aV⟩:=bm.2.2.1.all n hn;exact⟨k,ac,ad,aV⟩) (by simp only[aA.num,an.num];omega) dE bl.2.2 a7.2.1
 ):p:=h
theorem zU(h:p:=by
 obtain⟨a0,ai,af⟩:=aQ.1.blk.two;go_wp2_with(fail);refine(a2 X s sA bL bD sl 2 aQ.1.src ad ad).mono ?_;rintro e b6 ⟨cv,rfl,a3,bU,h,he⟩;have aj:=he.fr;have dM:s<X.heap.size:=aQ.1.src.lt;have bh:=aQ.1.next bf h aj;have bF:=aQ.2.1.on aj ad;have bT:=cI bh bF (aQ.2.2.1.on aj W) (aQ.2.2.2.1.DH aj fun b O=>ad) (aQ.2.2.2.2.DH aj fun b O=>ad);have bs:S.heap.size<b6.heap.size:=bF.lt;have bd:=ag aj.size (fun b (ac:b<X.heap.size) (av:¬b=s)=>aj.block b ac av);clear a0 ai af h he aj bh a3 bU bF;have al:=bm.2.2.1.num;by_cases ap:cv=1
 case neg=>
  have q:(cv == 1)=false:=by simpa using ap
  clear ap;go_wp2_with(fail);have bA:=bT.2.1;exact pk
 case pos=>
  have q:(cv == 1)=true:=by simpa using ap
  clear ap;obtain⟨a8,am,aF⟩:=bT.2.2.1.two;go_wp2_with(fail)
  first
   | rw[j.2,show IntKind.i64.wrap ((i:Nat):Int)=((i:Nat):Int) from IntWalk.i64_in _ ad]
   | rw[j.2]
  refine(cc.2.2 bu ad i 3 aI (T++decls ls) au bi ba aZ ps QA cq qc bx b6 ad ad (bT.1.wr a7.1) (Sl.c4 a7.2.2.2.2.1 bT.1.fr) ad (fun k ap=>cc.2.1 k ad) (Sl.c4 a7.2.2.1 bT.1.fr) bK).mono ?_;rintro e cN ⟨t,a6,az,bb,bn,rfl,ci,b9,bO,aG,P⟩;have u:¬(S.heap.size=s∨S.heap.size=wb):=ad;have z:=bT.2.1.on P u;have bt:a6≤bu:=ci.le;have bY:=cT (bT.1.Ht aG P) z ci b9 bO P;clear ci b9 bO aG P a8 am aF;obtain⟨d0,aL,aM⟩:=z.two;clear z;go_wp2_with(fail);generalize cr:World.setCell _ _ _=Y;have J:=cL cr;have bA:aq Y S.heap.size 180 #[.int .i64 7,.string ⟨#[]⟩,.int .i64 x.a9,.int .i64 x.numOf,.string x.bu,.slice cO cG cV,.string ⟨#[]⟩,.slice none 0 0,.slice none 0 0,.slice m aO bS,.slice az bb bn]:=cr▸bY.2.1.aM 10 _;clear cr d0 aL aM;have aa:=bY.2.2.2.2.2;have be:=bY.2.2.1.num;have ah:∀b,S.heap.size≤b→¬(b=s∨b=wb):=fun b O h=>ad;have a9:Sl X (fun b=>S.heap.size<b∧b<X.heap.size) cO cG (x.args.map bk):=ao.1;have aX:Sl X (fun b=>S.heap.size<b∧b<X.heap.size) m aO (c5 (.eM R)):=ao.2;have c0:∀b,S.heap.size<b→b<X.heap.size→Y.heap[b]?=X.heap[b]?:=fun b ac av=>(J.block b (lK bd.1 aa.size) ad).trans ((aa.block b (aD bd.1) (ah b ad)).trans (bd.2 b av ad));have H:X.heap.size≤Y.heap.size:=by have:=bd.1;have:=aa.size;have:=J.size;omega
  have bj:Sl Y (fresh S Y) cO cG (x.args.map bk):=(a9.ak fun b O=>c0 b O.1 O.2).mono fun b O=>⟨by have:=O.1;omega,by have:=O.2;omega⟩
  have bg:Sl Y (fresh S Y) m aO (c5 (.eM R)):=(aX.ak fun b O=>c0 b O.1 O.2).mono fun b O=>⟨by have:=O.1;omega,by have:=O.2;omega⟩
  have aU:Sl Y (fresh S Y) az bb (c5 (.eM t)):=by
   rw[mu];exact(bY.2.2.2.2.1.ak fun b O=>J.block b O.2 (aD O.1)).mono fun b O=>⟨by have:=O.1;omega,by have:=O.2;have:=J.size;omega⟩
  try refine hN _ _ ?_
  unfold lF;refine⟨au,bi,ba,bq,on,b7,?_⟩
  iterate 240 apply Exists.intro
  refine⟨?_,rfl⟩;exact gY.simple (st:=.ite x (.eM R) (.eM t)) ⟨s,wb,sA,bL,bD,sl,GA,gn,gc,MA,mn,mc,FA,fn,fc,M,F,ar⟩ ck B bP bv d ps V T ls N L aw aZ QA cq qc bx a7.1 bX eN a7.2.2.2.1 cc.1 cg bV aR (bY.1.fresh a7.1 J fun b O=>ad) bA (eC (a1.2 ⟨cO,cG,cV,rfl,aW.2.2.2.1,bj⟩) kG (Sl.bO _) (KG _) bg bm.2.2.2.1 aU bY.2.2.2.1) ⟨i,j.1,dK cc.1 2 x aW.2.2.1,(dd _ i i aI _ _ _ cc.1 (fun _ _ h=>h) (KG _) bm.2.2.1.wf),(dd _ i i aI _ _ _ cc.1 (fun _ _ h=>h) (KG _) bY.2.2.1.wf)⟩ (fun n hn=>by simp only[aA.all] at hn;exact(KP.1 hn).elim (fun hn=>by obtain⟨k,ac,av,aV⟩:=bm.2.2.1.all n hn;exact⟨k,ad,ad,aV⟩) (fun hn=>by obtain⟨k,ac,av,aV⟩:=bY.2.2.1.all n hn;exact⟨k,ac,ad,aV⟩)) (by simp only[aA.num];omega) ad bl.2.2 a7.2.1
 ):p:=h
theorem zQ(h:p:=by
 have bo:aq X S.heap.size 180 #[.int .i64 7,.string ⟨#[]⟩,.int .i64 x.a9,.int .i64 x.numOf,.string x.bu,.slice cO cG cV,.string ⟨#[]⟩,.slice none 0 0,.slice none 0 0,.slice m aO bS,.slice none 0 0]:=hX▸(((((bm.2.1.aM 0 _).aM 2 _).aM 3 _).aM 4 _).aM 5 _).aM 9 _;exact zT
 ):p:=h
theorem AK(h:p:=by
 go_upto_region 30 with(fail);exact Bb
 ):p:=h
theorem lH(h:p:=by
 exact AJ
 ):p:=h
end BJ
open BJ in
theorem IM(d bi:Nat)(bG:0<d):SK 11 d bi:=by
 exact lG
namespace BL
theorem po(h:p:=by
 exact gY.simple (st:=.gv x (.eM R)) ⟨s,wb,sA,bL,bD,sl,GA,gn,gc,MA,mn,mc,FA,fn,fc,M,F,ar⟩ ck B bP bv d ps V T ls N L aw aZ QA cq qc bx a7.1 bX eN a7.2.2.2.1 cc.1 cg bV aR aQ.1 bA (eC (a1.2 ⟨cO,cG,cV,rfl,aW.2.2.2.1,aQ.2.2.2.1⟩) kG (Sl.bO _) (KG _) aQ.2.2.2.2 bm.2.2.2.1 (Sl.bO _) (KG _)) ⟨i,j.1,dK cc.1 2 x aW.2.2.1,(dd _ i i aI _ _ _ cc.1 (fun _ _ h=>h) (KG _) bm.2.2.1.wf)⟩ (fun n hn=>by obtain⟨k,ac,av,aV⟩:=bm.2.2.1.all n hn;exact⟨k,ac,ad,aV⟩) (by simp only[aA.num];omega) dE bl.2.2 a7.2.1
 ):p:=h
theorem zU(h:p:=by
 go_wp2_with(fail);have al:=bm.2.2.1.num;have bA:=aQ.2.1;exact pk
 ):p:=h
theorem zQ(h:p:=by
 have bo:aq X S.heap.size 180 #[.int .i64 8,.string ⟨#[]⟩,.int .i64 x.a9,.int .i64 x.numOf,.string x.bu,.slice cO cG cV,.string ⟨#[]⟩,.slice none 0 0,.slice none 0 0,.slice m aO bS,.slice none 0 0]:=hX▸(((((bm.2.1.aM 0 _).aM 2 _).aM 3 _).aM 4 _).aM 5 _).aM 9 _;exact zT
 ):p:=h
theorem AK(h:p:=by
 go_upto_region 34 with(fail);exact Bb
 ):p:=h
theorem lH(h:p:=by
 exact AJ
 ):p:=h
end BL
open BL in
theorem IN(d bi:Nat)(bG:0<d):SK 12 d bi:=by
 exact lG
theorem IL(cv:Int)(bo:0≤cv)(ay:cv<14)(d bi:Nat):SK cv d bi:=by
 by_cases bz:cv<4
 ·exact Ey false cv d bi (.inl ⟨rfl,bz⟩)
 by_cases g:cv<7
 ·exact Ey true cv d bi (.inr ⟨rfl,bz,g⟩)
 have ap:cv=7∨cv=8∨cv=9∨cv=10∨cv=11∨cv=12∨cv=13:=ad;rcases ap with rfl|rfl|rfl|rfl|rfl|rfl|rfl
 ·exact HF d bi
 ·by_cases bM:0<bi
  ·exact HE d bi ad
  ·exact xY 8 d bi ad
 ·exact Ew false 9 d bi (by simp)
 ·exact Ew true 10 d bi (by simp)
 ·by_cases hd:0<d
  ·exact IM d bi ad
  ·exact xY 11 d bi ad
 ·by_cases hd:0<d
  ·exact IN d bi ad
  ·exact xY 12 d bi ad
 ·exact xY 13 d bi ad
def IZ(p:kj)(ck B:Nat)(bP bv:Value)(d:Nat)(ps:List (ByteArray×Bool))(V T:Lt)(aw:World)(aH:Nat)(aZ:ByteArray)(QA:Ls)(cq qc:Nat)(bx:Value)(au:Ls)(bi ba:Nat)(bq:Ls)(on b7:Nat)(N:Int)(w:World):Prop:=∃(aI:Lt) (ls:List aA) (L:Nat),
 N≤7∧oA p aw w L∧aq w ck 143 #[.string aZ,.slice QA cq qc,bx]∧ld B 9 1 180 11 w au bi ba (aI.map D.s) bq on b7 (ls.map bg)∧Made (p.env ps) d V T aH L ls∧aI ⊆ V++decls ls∧aI.length+L≤60
def qS(p:kj)(ck B:Nat)(bP bv:Value)(d:Nat)(ps:List (ByteArray×Bool))(V T:Lt)(aw:World)(aH:Nat)(aZ:ByteArray)(QA:Ls)(cq qc:Nat)(bx:Value)(a:Act)(w:World):Prop:=∃(au:Ls) (bi ba:Nat) (bq:Ls) (on b7:Nat) (N:Int) (gK z u8 gL eO bS u16 gq gr eR eS eT eU eV eW eY eZ e3 e6 e7 e8 e9 u32 fa fb fd fe ff fh fi fk fl fm fo fp fq fr fs ft fv fw fx fy fz fA fB fC fD fE fF fG fH fI fJ u64 fK fL fM fN fO fP fQ fR fS fT fU fV fW fX fY fZ f3 f4 f5 f6 f7 f8 f9 ga gb gd ge gf gg gh gi gj gk gl gm H I am aF aL aM aN aU a1 a8 bb be bj bo br bt bA bF bG bL bM bW bZ b1 b2 b8 ca cb ce cj cn co cw cy cz cA cD cE cF cG cH cJ cM cO cP cQ cS cT cU cV cW cX cY cZ c4 c5 c6 c7 c8 c9 da db dc dd de df dg dh di dj dk dl dm dn dp dr dt du dv dw dx dy dA dB dD dE dF dG dH dJ dK dM dQ dR dS dT dV dW dX dY dZ d0 d1 d2 d3 d4 d5 d6 d7 d8 d9 ea eb ec ed ee ef eg eh ei ej ek el em en eo ep eq er es et eu ev ew ex ey ez eA eB eC eD eE eF eG eH eI eJ eL eM cc bR:Value),IZ p ck B bP bv d ps V T aw aH aZ QA cq qc bx au bi ba bq on b7 N w∧a=⟨#[.pointer (some ⟨p.wb,0,none⟩),bP,.slice au bi ba,.int .i64 (d:Int),bv,gK,.pointer (some ⟨ck,0,none⟩),z,u8,gL,eO,.slice bq on b7,.int .i64 N,cc,bR,bS,u16,gq,gr,eR,eS,eT,eU,eV,eW,eY,eZ,e3,e6,e7,e8,e9,u32,fa,fb,fd,fe,ff,fh,fi,fk,fl,fm,fo,fp,fq,fr,fs,ft,fv,fw,fx,fy,fz,fA,fB,fC,fD,fE,fF,fG,fH,fI,fJ,u64,fK,fL,fM,fN,fO,fP,fQ,fR,fS,fT,fU,fV,fW,fX,fY,fZ,f3,f4,f5,f6,f7,f8,f9,ga,gb,gd,ge,gf,gg,gh,gi,gj,gk,gl,gm,H,I,am,aF,aL,aM,aN,aU,a1,a8,bb,be,bj,bo,br,bt,bA,bF,bG,bL,bM,bW,bZ,b1,b2,b8,ca,cb,ce,cj,cn,co,cw,cy,cz,cA,cD,cE,cF,cG,cH,cJ,cM,cO,cP,cQ,cS,cT,cU,cV,cW,cX,cY,cZ,c4,c5,c6,c7,c8,c9,da,db,dc,dd,de,df,dg,dh,di,dj,dk,dl,dm,dn,dp,dr,dt,du,dv,dw,dx,dy,dA,dB,dD,dE,dF,dG,dH,dJ,dK,dM,dQ,dR,dS,dT,dV,dW,dX,dY,dZ,d0,d1,d2,d3,d4,d5,d6,d7,d8,d9,ea,eb,ec,ed,ee,ef,eg,eh,ei,ej,ek,el,em,en,eo,ep,eq,er,es,et,eu,ev,ew,ex,ey,ez,eA,eB,eC,eD,eE,eF,eG,eH,eI,eJ,eL,eM],[]⟩
def EV(a:Act)(_:World):Nat:=(intOf (a.tmps.getD 12 undef)).toNat
theorem FR(p:kj)(ck B:Nat)(bP bv:Value)(d:Nat)(ps:List (ByteArray×Bool))(V T:Lt)(aw:World)(aH:Nat)(aZ:ByteArray)(QA:Ls)(cq qc:Nat)(bx:Value)(i:gw aw p aH)(k:Sl aw (off p.MW aw) QA cq (ps.map ds))(b4:aw.heap.size≤ck)(eN:ck<B)(bs:B≤ck+1)(bK:cq≤2)(bc:d≤2)(Z:mg T aH)(ax:∀R,R<aH→HS p R)(dq:Exit→Act→World→Prop)(hQ0:∀c a d v w,dq (.panic c) (a.put d v) w→dq (.panic c) a w)(x:∀r j,qS p ck B bP bv d ps V T aw aH aZ QA cq qc bx r j→dq (.exit 0) r j)
  (a:Act) (wr:World) (hI:qS p ck B bP bv d ps V T aw aH aZ QA cq qc bx a wr):Code.wp prog w1 (Exit.then (fun r j=>qS p ck B bP bv d ps V T aw aH aZ QA cq qc bx r j∧EV r j<EV a wr) dq) a wr:=by
 obtain⟨s,wb,sA,bL,bD,sl,GA,gn,gc,MA,mn,mc,FA,fn,fc,M,F,ar⟩:=p;unfold qS at hI;obtain⟨au,bi,ba,bq,on,b7,N,hI⟩:=hI
 iterate 241 obtain⟨_,hI⟩:=hI
 obtain⟨hI,rfl⟩:=hI;have a7:=ae hI;obtain⟨aI,ls,L,a8,hC,aA,hG,hM,hV,cg⟩:=hI;have bf:=i.ne;have dC:=i.src.lt;have cu:=i.blk.lt;simp only at bf dC cu;obtain⟨a0,ai,af⟩:=hC.blk.two;have b5:aI.length=bi:=by have:=hG.one.len;simpa using this
 have Q:ls.length=on:=by have:=hG.two.len;simpa using this
 have aP:=hC.le;have aJ:=hM.le;have aX:=i.kB;have a1:on≤48:=by
  have ac:=hM.num;have av:=tT ls;have aV:=i.kB;omega
 have ah:=cI hC aA hG hM hV;have bl:=bH i k Z ax;clear hC aA hG hM hV i k Z ax;by_cases hP:0<N
 case neg=>
  have q:decide (N > 0)=false:=by simp;omega
  exact zo
 by_cases a5:0<L
 case neg=>
  have q:decide (N > 0)=true:=by simpa using hP
  obtain rfl:L=0:=ad;exact zo
 obtain⟨R,rfl⟩:∃R,L=R+1:=⟨L - 1,ad⟩
 have dE:(0:Int)<((R+1:Nat):Int):=ad;clear a7;conv=>arg 2;whnf
 go_upto_region 7 with(fail);generalize hX:World.setCell _ _ _=S;have ao:=cL hX;have cy:aq S wb 134 #[.pointer (some ⟨s,0,none⟩),.slice GA gn gc,.slice MA mn mc,.slice FA fn fc,.int .i64 R,.bool ar]:=hX▸ah.1.blk.aM 4 _;have n:oA ⟨s,wb,sA,bL,bD,sl,GA,gn,gc,MA,mn,mc,FA,fn,fc,M,F,ar⟩ aw S R:=⟨ah.1.src.cQ ao (fun b O h=>by simp only at O;omega),cy,ah.1.fr.trans (ao.mono fun _ h=>.inr h),ad⟩
 have aa:=ah.2.1.on ao ad;have bk:=ah.2.2.1.c4 ao (fun b O _=>ad);have bd:=aB n aa bk;have ci:ck<S.heap.size:=aa.lt;clear hX ao cy n aa bk a0 ai af;obtain⟨a0,ai,af⟩:=bd.1.blk.two;go_upto_region 8 with(fail);generalize ak:World.alloc _ _=aS;have aN:=aU ak;have U:=aG ak;have u:oA ⟨s,wb,sA,bL,bD,sl,GA,gn,gc,MA,mn,mc,FA,fn,fc,M,F,ar⟩ S aS R:=⟨bd.1.src.cQ aN (fun _ _ h=>h),bd.1.blk.ai aN,aN.mono fun _ h=>h.elim,bd.1.le⟩
 have H1:=ag u U;clear ak aN U u a0 ai af;obtain⟨a0,ai,af⟩:=H1.1.blk.two;go_wp2_with(fail);refine(a2 aS s sA bL bD sl 14 H1.1.src ad ad).mono ?_;rintro e aT ⟨cv,rfl,bo,ay,h,he⟩;have an:=H1.1.next bf h he.fr;have cA:=H1.2.on he.fr ad;have bG:=ag an cA;clear h he an cA a0 ai af H1;go_upto_region 14 with(fail);have h0:=bd.1.wr bl.1;have P:∀b,(⟨s,wb,sA,bL,bD,sl,GA,gn,gc,MA,mn,mc,FA,fn,fc,M,F,ar⟩:kj).MW b→b<B:=fun b O=>by rcases O with O|O<;>(simp only at O;omega)
 refine IL cv bo ay d bi ⟨s,wb,sA,bL,bD,sl,GA,gn,gc,MA,mn,mc,FA,fn,fc,M,F,ar⟩ ck B bP bv ps V T ls N S R aw aZ QA cq qc bx aI au ba bq on b7 R (by simp only;omega) ad ad bK aT h0.ne h0.src.lt h0.blk.lt (by have:=bd.2.2.one.len;simpa using this) bG.1.fr.size (ae ⟨h0,bd.2.1,Sl.c4 bl.2.1 bd.1.fr,bd.2.2,bd.2.2.names P,P⟩) (ae ⟨bG.1,bd.2.1.on bG.1.fr (fun h=>by rcases h with h|h<;>(simp only at h;omega)),bG.2⟩) ad ad bc (ae ⟨ah.2.2.2.2,ah.2.2.2.1.free ad bl.2.2.1,fun a4 bh=>bl.2.2.2 a4 ad⟩) aH (ae ⟨bl.1,bl.2.1,bd.1.fr⟩) b4 _ ?hQ ?hN _ (by assumption)
 case hQ=>exact fun c a d v w h=>hQ0 _ _ _ _ _ h
 case hN=>
  intro r ab hp;unfold lF at hp;obtain⟨z,aQ,am,aC,HT,aE,hp⟩:=hp
  iterate 240 obtain⟨_,hp⟩:=hp
  obtain⟨hF,rfl⟩:=hp;obtain⟨aR,m,st,a6,cs,aj,l,J,Y,I,bn,y,K,hle,ap,aO,a3⟩:=hF;obtain⟨eo,en,es,EA,em,ec,rs,cc,c7,rc,bY,n1,c1,A2,n2,c2,cC,n3,c3,rfl,_⟩:=k8 I;obtain⟨d0,aL,aM⟩:=Y.two;have aW:=pe aj l J I bn y K ap;have aY:ck<ab.heap.size:=l.lt;have b0:B≤ab.heap.size:=ad;clear aj l J Y I bn y K ap;clear bG
  try dsimp only[Exit.inBlock,Exit.then]
  go_wp2_with(at_builtin;refine bQ oD rfl (.tmp 244) (.tmp 246) rfl aW.2.2.1.two aW.2.2.2.1 rfl rfl rfl ad ad b0 ?_;intro cm bN c6 bB az al b9;have dw:=aB bB az al;clear bB az al b9);refine⟨?_,by simp[EV,intOf];omega⟩;obtain⟨aj,l,J,I,bn,y,K,ap⟩:=aW.o;obtain⟨bj,aK,bC⟩:=dw.o;have aF:∀b,(Value.slice aC HT aE).ownBlock=some b→B≤b:=fun b O=>(J.two.lt O).1;unfold qS;refine⟨z,aQ,am,cm,HT+1,bN,N - 1,?_⟩
  iterate 241 apply Exists.intro
  refine⟨?_,rfl⟩;refine⟨aR,ls++(m++[st]),a6,ad,aj.fresh bl.1 aK (fun b O=>by have:=aF b O;omega),l.on aK (fun O=>by have:=aF _ O;omega),?_,ah.2.2.2.1.snoc bn y K ad,ap,aO⟩;have aD:(ls++(m++[st])).map bg=(ls++m).map bg++[bg st]:=by simp
  rw[aD];exact(J.swap.grow bj aK bC).swap
theorem HM(p:kj)(ck B:Nat)(bP bv:Value)(d:Nat)(ps:List (ByteArray×Bool))(V T:Lt)(aw:World)(aH:Nat)(aZ:ByteArray)(QA:Ls)(cq qc:Nat)(bx:Value)(i:gw aw p aH)(k:Sl aw (off p.MW aw) QA cq (ps.map ds))(b4:aw.heap.size≤ck)(eN:ck<B)(bs:B≤ck+1)(bK:cq≤2)(bc:d≤2)(Z:mg T aH)(ax:∀R,R<aH→HS p R)(dq:Exit→Act→World→Prop)(hQ0:∀c a d v w,dq (.panic c) (a.put d v) w→dq (.panic c) a w)(x:∀r j,qS p ck B bP bv d ps V T aw aH aZ QA cq qc bx r j→dq (.exit 0) r j)
  (au:Ls) (bi ba:Nat) (bq:Ls) (on b7:Nat) (N:Int) {gK z u8 gL eO bS u16 gq gr eR eS eT eU eV eW eY eZ e3 e6 e7 e8 e9 u32 fa fb fd fe ff fh fi fk fl fm fo fp fq fr fs ft fv fw fx fy fz fA fB fC fD fE fF fG fH fI fJ u64 fK fL fM fN fO fP fQ fR fS fT fU fV fW fX fY fZ f3 f4 f5 f6 f7 f8 f9 ga gb gd ge gf gg gh gi gj gk gl gm H I am aF aL aM aN aU a1 a8 bb be bj bo br bt bA bF bG bL bM bW bZ b1 b2 b8 ca cb ce cj cn co cw cy cz cA cD cE cF cG cH cJ cM cO cP cQ cS cT cU cV cW cX cY cZ c4 c5 c6 c7 c8 c9 da db dc dd de df dg dh di dj dk dl dm dn dp dr dt du dv dw dx dy dA dB dD dE dF dG dH dJ dK dM dQ dR dS dT dV dW dX dY dZ d0 d1 d2 d3 d4 d5 d6 d7 d8 d9 ea eb ec ed ee ef eg eh ei ej ek el em en eo ep eq er es et eu ev ew ex ey ez eA eB eC eD eE eF eG eH eI eJ eL eM cc bR:Value} (wr:World) (hI:IZ p ck B bP bv d ps V T aw aH aZ QA cq qc bx au bi ba bq on b7 N wr):Code.wp prog (Code.loop w1) dq ⟨#[.pointer (some ⟨p.wb,0,none⟩),bP,.slice au bi ba,.int .i64 (d:Int),bv,gK,.pointer (some ⟨ck,0,none⟩),z,u8,gL,eO,.slice bq on b7,.int .i64 N,cc,bR,bS,u16,gq,gr,eR,eS,eT,eU,eV,eW,eY,eZ,e3,e6,e7,e8,e9,u32,fa,fb,fd,fe,ff,fh,fi,fk,fl,fm,fo,fp,fq,fr,fs,ft,fv,fw,fx,fy,fz,fA,fB,fC,fD,fE,fF,fG,fH,fI,fJ,u64,fK,fL,fM,fN,fO,fP,fQ,fR,fS,fT,fU,fV,fW,fX,fY,fZ,f3,f4,f5,f6,f7,f8,f9,ga,gb,gd,ge,gf,gg,gh,gi,gj,gk,gl,gm,H,I,am,aF,aL,aM,aN,aU,a1,a8,bb,be,bj,bo,br,bt,bA,bF,bG,bL,bM,bW,bZ,b1,b2,b8,ca,cb,ce,cj,cn,co,cw,cy,cz,cA,cD,cE,cF,cG,cH,cJ,cM,cO,cP,cQ,cS,cT,cU,cV,cW,cX,cY,cZ,c4,c5,c6,c7,c8,c9,da,db,dc,dd,de,df,dg,dh,di,dj,dk,dl,dm,dn,dp,dr,dt,du,dv,dw,dx,dy,dA,dB,dD,dE,dF,dG,dH,dJ,dK,dM,dQ,dR,dS,dT,dV,dW,dX,dY,dZ,d0,d1,d2,d3,d4,d5,d6,d7,d8,d9,ea,eb,ec,ed,ee,ef,eg,eh,ei,ej,ek,el,em,en,eo,ep,eq,er,es,et,eu,ev,ew,ex,ey,ez,eA,eB,eC,eD,eE,eF,eG,eH,eI,eJ,eL,eM],[]⟩ wr:=by
 refine wp_loop (qS p ck B bP bv d ps V T aw aH aZ QA cq qc bx) EV ?_ (fun a j hI=>FR p ck B bP bv d ps V T aw aH aZ QA cq qc bx i k b4 eN bs bK bc Z ax dq hQ0 x a j hI);unfold qS
 iterate 248 apply Exists.intro
 exact⟨hI,rfl⟩
end Go.Proofs.YtnhhdaggkiomoaaGreat

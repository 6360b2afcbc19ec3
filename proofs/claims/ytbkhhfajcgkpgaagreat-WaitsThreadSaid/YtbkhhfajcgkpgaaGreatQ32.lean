/- Part 32 of the proof. No condition of its own. -/
import Derived.Test.YtbkhhfajcgkpgaaGreatQ31
namespace Go.Proofs.YtbkhhfajcgkpgaaGreat
open Go.RowKit Go.Proofs.Tryz
set_option maxRecDepth 1000000
set_option maxHeartbeats 25600000
set_option linter.unusedVariables false
variable{p:Prop}
namespace Br
theorem oQ(h:p:=by
 exact gJ.simple (st:=.ret) ⟨s,wb,sA,bQ,a7,sl,GA,gn,gc,MA,mn,mc,FA,fn,fc,M,F,ar⟩ aB B b7 be d ps V T ls N L W aY QA ca qc bI au.1 bv dw au.2.2.2.1 cc.1 eO c2 aL (df.1.fresh au.1 aD fun b O=>ab) aG (ei lS ky (Sl.bG _) (JQ _) (Sl.bG _) (JQ _) (Sl.bG _) (JQ _)) trivial (fun n hn=>by simp[ax.all] at hn) (by simp only[ax.num];omega) (JQ _) bd.2.2 au.2.1
 ):p:=h
theorem ly(h:p:=by
 first
  | subst bH
    have df:=bL
  | revert bK
    intro bK;have de:decide ((a8:Int) > 0)=false:=by simp;omega
    have dn:¬(0:Int)<(a8:Int):=ab;clear bK
    have df:=bL
  | have cr:J.heap.size<wr.heap.size:=bL.2.2.lt
    go_wp2_with(fail);refine(aW wr s sA bQ a7 sl 3 bL.1.src ab ab).mono ?_;rintro e wr ⟨b5,rfl,aJ,bF,h,he⟩;have t:=he.fr;have df:=aQ (bL.1.next a1 h t) (bL.2.1.on t ab) (bL.2.2.on t ab);clear a0 ap ak a6 am aI d0 ag aR h he t aJ bF;by_cases aj:b5=1
    case pos=>
     have q:(b5 == 1)=true:=by simpa using aj
     clear aj;obtain⟨d0,ag,aR⟩:=df.2.2.two;go_wp2_with(fail);generalize hX:World.setCell _ _ _=X;have aD:Fr (fun b=>b=J.heap.size) wr X:=hX▸(Fr.refl (fun b=>b=J.heap.size) wr).setCell (.inl rfl) _;have aG:af X J.heap.size 192 #[.int .i64 9,.string ⟨#[]⟩,.int .i64 0,.int .i64 0,.string ⟨#[]⟩,.slice none 0 0,.string ⟨#[]⟩,.slice none 0 0,.slice none 0 0,.slice none 0 0,.slice none 0 0]:=hX▸df.2.2.aC 0 _;exact oP
    have q:(b5 == 1)=false:=by simpa using aj
    clear aj;obtain⟨a0,ap,ak⟩:=df.1.blk.two;obtain⟨a6,am,aI⟩:=df.2.1.two;obtain⟨d0,ag,aR⟩:=df.2.2.two
 go_wp2_with(fail);refine(qq ⟨s,wb,sA,bQ,a7,sl,GA,gn,gc,MA,mn,mc,FA,fn,fc,M,F,ar⟩ L bc o a8 u aY ps QA ca qc bI wr (df.1.wr au.1) ((Sl.cO au.2.2.2.2.1 df.1.fr).mono fun b O=>⟨O.1,fun h=>O.2 (.inl h)⟩) ab ((Sl.cO au.2.2.1 df.1.fr).mono fun b O=>⟨O.1,fun h=>O.2 (.inl h)⟩) bm).mono ?_;rintro e aO ⟨r,IA,i,ic,rfl,S,aA,aa,av,t⟩;simp only at S av t;have bg:J.heap.size<wr.heap.size:=df.2.2.lt;have l:=df.2.2.on t ab;have a9:=df.2.1.on t ab;have aX:=iE (df.1.next a1 av t) l a9 (S (F.map fun f=>(f.name,f.params))) aA aa t.size;clear a0 ap ak a6 am aI d0 ag aR S aA aa av t a9;obtain⟨d0,ag,aR⟩:=l.two;clear l;go_upto_region 10 with(fail);generalize hX:World.setCell _ _ _=X;have aD:Fr (fun b=>b=J.heap.size) aO X:=hX▸((Fr.refl (fun b=>b=J.heap.size) aO).setCell (.inl rfl) _).setCell (.inl rfl) _;have bh:af X J.heap.size 192 #[.int .i64 5,.string ⟨#[]⟩,.int .i64 0,.int .i64 0,.string ⟨#[]⟩,.slice none 0 0,.string r.name,.slice IA i ic,.slice none 0 0,.slice none 0 0,.slice none 0 0]:=hX▸(aX.2.1.aC 6 _).aC 7 _;have cj:Sl X (fresh wr X) IA i (r.idx.toList.map bb):=(aX.2.2.2.2.2.1.aj fun b O=>aD.block b O.2 (aH O.1)).mono fun b O=>⟨O.1,by have:=O.2;have:=aD.size;omega⟩
 have aP:=dA (aX.1.fresh au.1 aD fun b O=>ab) bh (aX.2.2.1.on aD ab) cj (by have:=aD.size;have:=aX.2.2.2.2.2.2;omega:wr.heap.size≤X.heap.size);clear hX d0 ag aR aD bh cj;obtain⟨d0,ag,aR⟩:=aP.2.1.two;go_upto_region 11 with(fail);generalize hU:World.alloc _ _=U;have ck:Ext X U:=hU▸Kn.alloc _;have bY:af U X.heap.size 192 #[.int .i64 6,.string ⟨#[]⟩,.int .i64 0,.int .i64 0,.string ⟨#[]⟩,.slice none 0 0,.string r.name,.slice IA i ic,.slice none 0 0,.slice none 0 0,.slice none 0 0]:=hU▸Ko;have bD:=aP.1.ak a1 ck;have b9:Gr (fun b=>(B≤b∧(Value.slice o a8 u).ownBlock≠some b)∧b≠J.heap.size) B 192 11 U bs on bG (ls.map a2):=(au.2.2.2.1.two.mono fun b ae aC=>⟨aC,ab⟩).cO bD.fr fun b O hl=>⟨fun h=>by have:=au.2.2.2.2.2 b O;have:=h.1.1;omega,au.2.2.2.2.2 b O⟩
 have ba:Gr (fun _=>False) B 9 1 U o a8 u (bc.map D.s):=(Gr.strs au.2.2.2.1.one).cO bD.fr fun b O hl=>⟨fun h=>h,au.2.2.2.2.2 b O⟩
 have j:∀b,(Value.slice o a8 u).ownBlock=some b→b<J.heap.size:=fun b O=>(au.2.2.2.1.one.lt O).2;have m:∀b,(Value.slice bs on bG).ownBlock=some b→B≤b∧b<J.heap.size:=fun b O=>au.2.2.2.1.two.lt O;have aq:∀b,(Value.slice o a8 u).ownBlock=some b→(Value.slice bs on bG).ownBlock≠some b:=au.2.2.2.1.ne;have cy:X.heap.size<U.heap.size:=bY.lt;have dd:wr.heap.size≤X.heap.size:=aP.2.2.2.2;have bZ:Sl U (fun b=>wr.heap.size≤b∧b<X.heap.size) IA i (r.idx.toList.map bb):=aP.2.2.2.1.aj fun b O=>ck.block b O.2 fun h=>h;have hD:(a2 (.lock false r)).rep U (lg (fun b=>(B≤b∧(Value.slice o a8 u).ownBlock≠some b)∧b≠J.heap.size) U (.slice bs on bG)) [.int .i64 5,.string ⟨#[]⟩,.int .i64 0,.int .i64 0,.string ⟨#[]⟩,.slice none 0 0,.string r.name,.slice IA i ic,.slice none 0 0,.slice none 0 0,.slice none 0 0]:=by
  refine ei lS (jl.2 ⟨IA,i,ic,rfl,aX.2.2.2.2.1,bZ.mono fun b O=>⟨⟨⟨by have:=O.1;omega,fun h=>by have:=j b h;have:=O.1;omega⟩,by have:=O.1;omega⟩,by have:=O.2;omega,fun h=>by have:=(m b h).2;have:=O.1;omega⟩⟩) (Sl.bG _) (JQ _) (Sl.bG _) (JQ _) (Sl.bG _) (JQ _)
 have cm:=s7 bD (aP.2.1.ak ck) (aP.2.2.1.ak ck) bY b9 ba bZ hD;have bx:=aQ j m aq;have bO:B≤U.heap.size:=ab;have bl:B≤X.heap.size:=ab;clear hU ck bY bD b9 ba bZ hD j m aq d0 ag aR;obtain⟨d0,ag,aR⟩:=cm.2.1.two;obtain⟨a6,am,aI⟩:=cm.2.2.1.two;go_upto_region 12 with(at_builtin;refine bR od rfl (.tmp 59) (.tmp 61) rfl cm.2.2.2.2.1 cm.2.2.2.2.2.2.2 rfl rfl rfl ab ab bO ?_;intro b2 bu bU an ay b8 bJ;have aE:=aQ an ay b8;clear an ay b8 bJ d0 ag aR);obtain⟨bC,Z,bq⟩:=aE.o;obtain⟨j,m,aq⟩:=bx.o;have cp:W.heap.size<B:=ab;have bz:¬(Value.slice bs on bG).ownBlock=some X.heap.size:=fun h=>by have:=(m _ h).2;omega
 have aS:¬(Value.slice bs on bG).ownBlock=some J.heap.size:=fun h=>by have:=(m _ h).2;omega
 have aK:¬(Value.slice bs on bG).ownBlock=some aB:=fun h=>by have:=(m _ h).1;omega
 have a5:oa ⟨s,wb,sA,bQ,a7,sl,GA,gn,gc,MA,mn,mc,FA,fn,fc,M,F,ar⟩ W bU L:=(oa.mk cm.1.src cm.1.blk (bd.2.2.trans cm.1.fr) cm.1.le).fresh bd.1 Z fun b O=>by have:=(m b O).1;omega
 have bE:=cm.2.2.2.2.2.1.c7 Z.size fun b aw hp=>Z.block b aw (hp.elim (fun h=>h.elim) fun hp=>aq b hp);have e1:Sl bU (fun b=>wr.heap.size≤b∧b<X.heap.size) IA i (r.idx.toList.map bb):=cm.2.2.2.2.2.2.1.aj fun b O=>Z.block b (aH O.2) fun h=>by have:=(m b h).2;have:=O.1;omega
 have ao:=iE a5 (cm.2.1.on Z aS) (cm.2.2.1.on Z aK) (cm.2.2.2.1.on Z bz) bC bE e1;have ac:∀b,(Value.slice b2 (on+1) bu).ownBlock=some b→(B≤b∧b<J.heap.size∧(Value.slice bs on bG).ownBlock=some b)∨U.heap.size≤b:=fun b O=>(bq b O).imp (fun h=>⟨(m b h).1,(m b h).2,h⟩) id;have aZ:=ai ac Z.size;clear bC Z bq j m aq bz aS aK a5 bE e1 ac cm aE a6 am aI;obtain⟨a6,am,aI⟩:=ao.2.2.1.two;have g6:Sl bU (off (fun b=>b=s∨b=wb) bU) o a8 (bc.map D.s):=ao.2.2.2.2.2.1.sl (fun _ _ h=>h.elim) (fun b O aL=>⟨O,fun h=>ab⟩);go_wp2_with(fail);refine(cc.2.2 L ab 0 2 bc (T++decls ls) o a8 u aY ps QA ca qc bI bU ab ab (ao.1.wr bd.1) g6 ab (fun k aj=>cc.2.1 k ab) (Sl.cO bd.2.1 ao.1.fr) bm).mono ?_;rintro e ci ⟨v,aU,ct,a3,bS,rfl,aF,bB,b1,cb,R⟩
 try simp only at R
 clear a6 am aI g6;have bM:=aF.le;have cn:L≤24:=ao.1.le;have cs:a3≤48:=by
  have ae:=aF.num;have aC:=tE v;have aT:=b1.1;simp only[JU] at aT;omega
 have ac:=aZ.1;have cv:=aZ.2;have aV:∀b,(b=s∨b=wb)→b<W.heap.size:=fun b O=>by
  have ae:=bd.1.src.lt;have aC:=bd.1.blk.lt;simp only at ae aC;rcases O with O|O<;>omega
 have cp:W.heap.size<B:=ab;have ce:=ao.2.2.2.2.1.cO R fun b O hl=>⟨fun h=>by have:=aV b O;have:=h.1.1;omega,by have:=aV b O;omega⟩
 have bT:=ao.2.2.2.2.2.1.cO R fun b O hl=>⟨fun h=>h,by have:=aV b O;omega⟩
 have cf:Sl ci (fun b=>wr.heap.size≤b∧b<X.heap.size) IA i (r.idx.toList.map bb):=ao.2.2.2.2.2.2.aj fun b O=>R.block b (aH O.2) fun h=>by have:=aV b h;have:=O.1;omega
 have cg:=bx.1;have bo:Sl ci (lg (fun b=>(B≤b∧(Value.slice o a8 u).ownBlock≠some b)∧b≠J.heap.size) ci (.slice b2 (on+1) bu)) ct a3 (v.map a2):=b1.mono fun b O=>⟨⟨⟨by have:=O.1;omega,fun h=>by have:=cg b h;have:=O.1;omega⟩,by have:=O.1;omega⟩,O.2,fun h=>by
  have ae:=O.1;rcases ac b h with aC|aC
  ·omega
  ·have:=(ao.2.2.2.2.1.lt h).2;omega⟩
 have P:=wH (ao.1.GI cb R) (ao.2.1.on R fun h=>by have:=aV _ h;omega) (ao.2.2.1.on R fun h=>by have:=aV _ h;omega) (ao.2.2.2.1.on R fun h=>by have:=aV _ h;omega) ce bT cf bo aF;have bi:∀d∈v.map a2,d.sz=11:=fun d hd=>by obtain⟨x,_,rfl⟩:=Ke.1 hd;exact vl x
 have cd:B≤ci.heap.size:=by have:=R.size;omega
 have bf:U.heap.size≤ci.heap.size:=by have:=R.size;omega
 clear aF bB b1 cb R ce bT cf bo ao ac cg;go_upto_region 13 with(at_builtin;refine wx od rfl (.tmp 63) (.tmp 67) rfl P.2.2.2.2.1 P.2.2.2.2.2.2.2.1 bi rfl rfl ab ab cd ?_;intro cl bP cx an ay b8 bJ;have dm:=aQ an ay b8;clear an ay b8 bJ);obtain⟨bn,az,bp⟩:=dm.o;have ac:=aZ.1;obtain⟨j,m,aq⟩:=bx.o;have bw:∀b,(Value.slice o a8 u).ownBlock=some b→(Value.slice b2 (on+1) bu).ownBlock≠some b:=fun b O h=>by
  rcases ac b h with aC|aC
  ·exact aq b O aC.2.2
  ·have:=j b O;omega
 have bz:¬(Value.slice b2 (on+1) bu).ownBlock=some X.heap.size:=fun h=>by rcases ac _ h with aC|aC<;>omega
 have aS:¬(Value.slice b2 (on+1) bu).ownBlock=some J.heap.size:=fun h=>by rcases ac _ h with aC|aC<;>omega
 have aK:¬(Value.slice b2 (on+1) bu).ownBlock=some aB:=fun h=>by rcases ac _ h with aC|aC<;>omega
 have b3:=P.1.fresh bd.1 az fun b O=>by rcases ac _ O with aC|aC<;>omega
 have bW:=P.2.2.2.2.2.1.c7 az.size fun b aw hp=>az.block b aw (hp.elim (fun h=>h.elim) fun hp=>bw b hp);have ch:Sl cx (fun b=>wr.heap.size≤b∧b<X.heap.size) IA i (r.idx.toList.map bb):=P.2.2.2.2.2.2.1.aj fun b O=>az.block b (aH O.2) fun h=>by have ae:=O.1;have aT:=O.2;rcases ac _ h with aC|aC<;>omega
 have z:=iE b3 (P.2.1.on az aS) (P.2.2.1.on az aK) (P.2.2.2.1.on az bz) bn bW ch;have aN:∀b,(Value.slice cl (on+1+a3) bP).ownBlock=some b→(B≤b∧b<J.heap.size∧(Value.slice bs on bG).ownBlock=some b)∨U.heap.size≤b:=fun b O=>by
  rcases bp b O with ae|ae
  ·exact ac b ae
  ·exact .inr ab
 have co:=ad aN;clear bn az bp ac j m aq bw bz aS aK b3 bW ch aN dm;obtain⟨d0,ag,aR⟩:=z.2.1.two;obtain⟨br,ah,bj⟩:=z.2.2.2.1.two;go_wp2_with(fail);generalize b6:World.setCell _ _ _=Y;have b0:W.heap.size≤J.heap.size:=bd.2.2.size;obtain⟨bt,bA,bk⟩:=dL (M:=fun b=>b=s∨b=wb) (w:=W) [.int .i64 6,.string ⟨#[]⟩,.int .i64 0,.int .i64 0,.string ⟨#[]⟩,.slice none 0 0,.string r.name,.slice IA i ic,.slice none 0 0,.slice none 0 0,.slice none 0 0] (by rfl) z.2.1 z.1.fr b0 b6;have j:=bx.1;have aN:=co.o;have xW:=z.2.2.2.2.2.1;have cV:=z.2.2.2.2.1;have aF:=P.2.2.2.2.2.2.2.2;have cq:Sl Y (fun b=>wr.heap.size≤b∧b<X.heap.size) IA i (r.idx.toList.map bb):=z.2.2.2.2.2.2.aj fun b O=>bk.block b (oR O.2 z.2.2.2.1.lt) (aH O.1);have cw:cx.heap.size≤Y.heap.size:=bk.size;have cu:X.heap.size<cx.heap.size:=z.2.2.2.1.lt
 try refine hN _ _ ?_
 unfold lu;refine⟨o,a8,u,cl,on+1+a3,bP,?_⟩
 iterate 240 apply Exists.intro
 refine⟨?_,rfl⟩;refine⟨bc,.lock false r::v,.lock true r,aU,_,z.1.fresh bd.1 bk (fun b O=>ab),z.2.2.1.on bk ab,⟨?_,?_,fun b O h=>?_⟩,bt,?_,D8 aX.2.2.2.1 cc.1 aF.wf,?_,?_,bM,?_,ab,ab⟩
 ·exact Gr.strs (xW.c7 bk.size fun b aw hp=>bk.block b aw (hp.elim (fun h=>h.elim) fun hp=>by have:=j b hp;omega))
 ·have ae:=(cV.c7 bk.size fun b aw hp=>bk.block b aw (by
   rcases hp with hp|hp
   ·exact hp.2
   ·rcases aN b hp with aC|aC<;>omega)).mono fun b _ hp=>hp.1
  have he:(ls++(ax.lock false r::v)).map a2=(ls.map a2++[a2 (.lock false r)])++v.map a2:=by simp
  rw[he];exact ae
 ·rcases aN b h with aC|aC
  ·exact bx.2.2 b O aC.2.2
  ·have:=j b O;omega
 ·exact ei lS (jl.2 ⟨IA,i,ic,rfl,aX.2.2.2.2.1,cq.mono fun b O=>⟨⟨by have:=O.1;omega,fun h=>by have:=j b h;have:=O.1;omega⟩,by have:=O.2;omega,fun h=>by have ae:=O.1;have aT:=O.2;rcases aN b h with aC|aC<;>omega⟩⟩) (Sl.bG _) (JQ _) (Sl.bG _) (JQ _) (Sl.bG _) (JQ _)
 ·intro n hn;rw[J5,all_cons,wW,all_cons] at hn;simp only[ax.all,al.eA,al.all,Kg,Kf] at hn;obtain⟨k,ae,aC,aT⟩:=aF.all n hn;exact⟨k,ae,ab,aT⟩
 ·rw[J5,kt,xj,sC];have:=aF.num;simp only[ax.num];omega
 ·intro y a4;have:=cc.1 a4;exact za
 ):p:=h
end Br
open Br in
theorem xt(k:Int)(d a8:Nat)(h:k=8∧a8=0∨k=11∧d=0∨k=12∧d=0∨k=13):SK k d a8:=by
 rcases h with⟨rfl,bK⟩|⟨rfl,bH⟩|⟨rfl,bH⟩|rfl
 all_goals
  exact lx
namespace Bs
theorem oQ(h:p:=by
 have bZ:=bP.o;subst bZ;exact gJ.simple (st:=.call c8 g.name aS) ⟨s,wb,sA,bQ,a7,sl,GA,gn,gc,MA,mn,mc,_,fn,fc,M,F,ar⟩ aB B b7 be d ps V T ls N L W aY QA ca qc bI au.1 bv dw au.2.2.2.1 cc.1 eO c2 aL (bf.fresh au.1 aD fun b O=>ab) aG (ei lS ky ((cK.aj fun b O=>aD.block b O.2 (aH O.1)).mono fun b O=>⟨by have:=O.1;omega,by have:=O.2;omega⟩) aw (Sl.bG _) (JQ _) (Sl.bG _) (JQ _)) ⟨g.params,Ke.2 ⟨g,bO.o,rfl⟩,np cc.1 _ _ (S _)⟩ (fun n hn=>by simp[ax.all] at hn) (by simp only[ax.num];omega) (JQ _) bd.2.2 au.2.1
 ):p:=h
theorem jD(h:p:=by
 generalize bE:World.setCell _ _ _=Y;have aD:Fr (fun b=>b=J.heap.size) aO Y:=bE▸((Fr.refl (fun b=>b=J.heap.size) aO).setCell (.inl rfl) _).setCell (.inl rfl) _;have aG:af Y J.heap.size 192 #[.int .i64 bU,.string g.name,.int .i64 0,.int .i64 0,.string ⟨#[]⟩,.slice none 0 0,.string ⟨#[]⟩,.slice none 0 0,.slice KA k kc,.slice none 0 0,.slice none 0 0]:=bE▸(aX.2.1.aC 1 _).aC 8 _;clear bE d0 ag aR;go_wp2_with(fail);obtain⟨bf,_,S,aw,cK,bz⟩:=aX.o;have bE:=aD.size;exact oP
 ):p:=h
theorem gq(h:p:=by
 refine cw ?_;generalize bD:World.setCell _ _ _=Z;obtain⟨bC,bl,bn⟩:=dL (M:=fun b=>b=s) [.string g.name,.slice bp bR bW,.slice I ac U] (by rfl) bH t gD bD;have bg:J.heap.size<X.heap.size:=aP.2.1.lt;have bT:s<X.heap.size:=ab;have bM:b0 Z s sA bQ a7 sl:=av.cG bn fun b O h=>ab;have bu:=aP.1.next a1 bM bl;have ba:=dQ bu (aP.2.1.on bl ab) (aP.2.2.1.on bl ab) bC bA a4;have b9:¬cn=s:=ab;have bi:=bl.size;clear bD bC bl bn bM bu bA a4 t av bH br ah bj;obtain⟨a6,am,aI⟩:=ba.2.2.1.two;obtain⟨br,ah,bj⟩:=ba.2.2.2.1.two;have b8:¬aB=s:=ab;have bJ:bR≤2:=by
  have ae:=ba.2.2.2.2.2.1;have aC:=bx g ba.2.2.2.2.1;simp at ae;omega
 go_upto_region 28 with(fail);refine eE (fun b=>b=s) [(0,3),(1,0),(2,3),(3,0),(4,0),(5,3),(7,3),(6,1),(8,2),(9,3),(10,2)] ?_;refine pf ?_;refine pV ?_;refine pf ?_
 iterate 2 refine pV ?_
 iterate 2 refine pf ?_
 refine aK rfl (fun K hK=>?_);go_simp;refine(yu ⟨s,wb,sA,bQ,a7,sl,GA,gn,gc,MA,mn,mc,_,fn,fc,M,F,ar⟩ L bc o a8 u aY ps QA ca qc bI g.name g.params bp bR bW (.slice I ac U) Z.drew ((ba.1.ak a1 Kn.drew).wr au.1) ((Sl.cO au.2.2.2.2.1 (ba.1.ak a1 Kn.drew).fr).mono fun b O=>⟨O.1,fun h=>O.2 (.inl h)⟩) ab ((Sl.cO au.2.2.1 (ba.1.ak a1 Kn.drew).fr).mono fun b O=>⟨O.1,fun h=>O.2 (.inl h)⟩) bm ((Sl.cO ba.2.2.2.2.2 (ba.1.ak a1 Kn.drew).fr).mono fun b O=>⟨O.1,fun h=>O.2 (.inl h)⟩) bJ).mono ?_;rintro e aO ⟨aS,KA,k,kc,rfl,S,aw,cK,av,t⟩;simp only at S av t;have aj:Fr (fun b=>b=s) Z aO:=Fr.aO t;have l:=ba.2.1.on aj ab;have aX:=dQ (ba.1.next a1 av aj) l S aw cK aj.size;have bO:=ad ba.2.2.2.2.1;have b6:X.heap.size≤Z.drew.heap.size:=bi;refine dW hK (t) ?_;clear hK K;clear a6 am aI br ah bj t av cK aw S aj;obtain⟨d0,ag,aR⟩:=l.two;clear l;exact u3
 ):p:=h
theorem ly(h:p:=by
 have bK:=au.1.nf;have bx:=au.1.jm;simp only at bK bx;have gK:¬wb=s:=ab;obtain⟨b2,cE,bo,_⟩:=au.1.fs.some_ bK.1;simp only at bo;subst bo;go_upto_region 27 with(fail);generalize hX:World.setCell _ _ _=X;have aD:Fr (fun b=>b=J.heap.size) wr X:=by rw[←hX];first|exact(Fr.refl (fun b=>b=J.heap.size) wr).setCell (.inl rfl) _|exact((Fr.refl (fun b=>b=J.heap.size) wr).setCell (.inl rfl) _).setCell (.inl rfl) _
 have bh:af X J.heap.size 192 #[.int .i64 bU,.string ⟨#[]⟩,.int .i64 0,.int .i64 0,.string ⟨#[]⟩,.slice none 0 0,.string ⟨#[]⟩,.slice none 0 0,.slice none 0 0,.slice none 0 0,.slice none 0 0]:=by rw[←hX,ay.o];first|exact(bL.2.2.aC 0 _)|exact(bL.2.2.aC 0 _).aC 0 _
 have H:=bL.1.fresh au.1 aD fun b O=>ab;have bk:=bL.2.1.on aD ab;have aP:=bw H bh bk aD.size;clear hX a0 ap ak a6 am aI d0 ag aR aD bh H bk;obtain⟨a0,ap,ak⟩:=aP.1.blk.two;refine tX (fun b=>b=s) [19] (.free 0 (.free 1 (.free 2 (.free 3 (.held 4 (.free 5 (.free 6 (.free 7 (.held 8 (.free 9 (.free 10 (.free 11 (.free 12 (.held 13 (.free 14 (.pick [15,18] (fun i=>bif i == 15 then .free 16 (.held 17 (.pick [18] (fun _=>.pick [19] (fun _=>.stop)))) else .pick [15] (fun _=>.free 16 (.held 17 (.pick [19] (fun _=>.stop))))))))))))))))))))) ?_
 iterate 4 refine tf ?_
 refine n8 ?_
 iterate 3 refine tf ?_
 refine n8 ?_
 iterate 4 refine tf ?_
 refine n8 ?_;refine tf ?_;clear a0 ap ak;refine iw (P:=?_) (ops:=?_) (Q:=?_) (R:=?_) (tails:=?_) (rest:=.pick [19] (fun _=>.stop)) (aa:=?_)
  (C:=fun(cn:Nat) (j:Nat) (y:Value) dz=>Fr (fun b=>b=s) X dz∧b0 dz s sA bQ a7 sl∧af dz cn 143 #[.string ⟨#[]⟩,.slice none 0 0,.slice none 0 0]∧X.heap.size≤cn∧∃(g:az) (bp:Kr) (bR bW:Nat) (I:Kr) (ac U:Nat),y=.agg #[.string g.name,.slice bp bR bW,.slice I ac U]∧g∈F∧Sl J (off (fun b=>b=s∨b=wb) J) bp bR (g.params.map df)) (fun key=>?_) ?_
 rotate_left 6
 ·
  refine bq ?_ ?_
  ·
   refine aE rfl (fun K hK=>?_) rfl;go_simp;refine(aW X.drew s sA bQ a7 sl fn (aP.1.ak a1 Kn.drew).src ab ab).mono ?_;rintro e aN ⟨b5,rfl,aJ,bF,h,he⟩;obtain⟨j,rfl⟩:=JV aJ;have aT:j<fn:=ab;have t:Fr (fun b=>b=s) X aN:=Fr.aO he.fr;have v:Fr (fun b=>b=s∨b=wb) J aN:=aP.1.fr.trans (t.mono fun _ h=>.inl h);refine dW hK (he.fr) ?_;clear hK K;obtain⟨bt,bY,g,cs,m,a5,r,aV,a3,hc⟩:=Sl.gN (z:=3) au.1.fs (fun _=>rfl) (k:=j) (by simpa using aT);injection m with m;injection m with hFA1 hFA2;subst hFA1 hFA2;obtain⟨bp,bR,bW,I,ac,U,rfl,bB,a4⟩:=Dh aV;have e0:=(v.cell a5.1 a5.2).trans (hc 0 _ rfl);have e1:=(v.cell a5.1 a5.2).trans (hc 1 _ rfl);have e2:=(v.cell a5.1 a5.2).trans (hc 2 _ rfl);simp only[J0] at e0;have ch:b2<aN.heap.size:=by have:=v.size;have:=a5.1;omega
   have aZ:¬b2=s:=fun h=>a5.2 (.inl h);have ci:(0:Int)≤(j:Int):=ab;have f1:(j:Int)<(fn:Int):=ab;have bb:=JT r;skip
   refine tf ?_;refine IY ?_;refine ao ?_;refine eZ ?_;generalize bD:World.alloc _ _=Z;have e3:Ext aN Z:=bD▸Kn.alloc _;have aF:Fr (fun b=>b=s) X Z∧b0 Z s sA bQ a7 sl∧af Z aN.heap.size 143 #[.string ⟨#[]⟩,.slice none 0 0,.slice none 0 0]∧X.heap.size≤aN.heap.size∧∃(ai:az) (an:Kr) (G a9:Nat) (al:Kr) (a2 aU:Nat),(Value.agg #[.string g.name,.slice bp bR bW,.slice I ac U])=.agg #[.string ai.name,.slice an G a9,.slice al a2 aU]∧ai∈F∧Sl J (off (fun b=>b=s∨b=wb) J) an G (ai.params.map df):=
    ⟨t.trans (e3.mono fun _ h=>h.elim),h.cG e3 fun _ _ h=>h,by rw[←bD];exact Ko,t.size,g,bp,bR,bW,_,_,_,rfl,bb,a4⟩
   clear bD e3 a4 aV a3 hc e0 e1 e2;revert aF;generalize aN.heap.size=cn;generalize (Value.agg #[.string g.name,.slice bp bR bW,.slice I ac U])=y;intro aF;exact key cn j y _ aF
  ·
   refine eZ ?_;generalize hV:World.drew (World.alloc _ _)=c3;have e1:Ext X c3:=hV▸(Kn.alloc _).drew;have b3:af c3 X.heap.size 143 #[.string ⟨#[]⟩,.slice none 0 0,.slice none 0 0]:=hV▸Ko;have b1:=b3.lt;refine ao ?_;refine aE rfl (fun K hK=>?_) rfl;go_simp;refine(aW c3 s sA bQ a7 sl fn (aP.1.ak a1 e1).src ab ab).mono ?_;rintro e aN ⟨b5,rfl,aJ,bF,h,he⟩;obtain⟨j,rfl⟩:=JV aJ;have aT:j<fn:=ab;have t:Fr (fun b=>b=s) X aN:=(e1.mono fun _ h=>h.elim).trans he.fr;have v:Fr (fun b=>b=s∨b=wb) J aN:=aP.1.fr.trans (t.mono fun _ h=>.inl h);have cv:s<X.heap.size:=by have:=aP.2.2.2;omega
   refine dW hK (he.fr) ?_;clear hK K;obtain⟨bt,bY,g,cs,m,a5,r,aV,a3,hc⟩:=Sl.gN (z:=3) au.1.fs (fun _=>rfl) (k:=j) (by simpa using aT);injection m with m;injection m with hFA1 hFA2;subst hFA1 hFA2;obtain⟨bp,bR,bW,I,ac,U,rfl,bB,a4⟩:=Dh aV;have e0:=(v.cell a5.1 a5.2).trans (hc 0 _ rfl);have e1:=(v.cell a5.1 a5.2).trans (hc 1 _ rfl);have e2:=(v.cell a5.1 a5.2).trans (hc 2 _ rfl);simp only[J0] at e0;have ch:b2<aN.heap.size:=by have:=v.size;have:=a5.1;omega
   have aZ:¬b2=s:=fun h=>a5.2 (.inl h);have ci:(0:Int)≤(j:Int):=ab;have f1:(j:Int)<(fn:Int):=ab;have bb:=JT r;skip
   refine tf ?_;refine IY ?_;have aF:Fr (fun b=>b=s) X aN∧b0 aN s sA bQ a7 sl∧af aN X.heap.size 143 #[.string ⟨#[]⟩,.slice none 0 0,.slice none 0 0]∧X.heap.size≤X.heap.size∧∃(ai:az) (an:Kr) (G a9:Nat) (al:Kr) (a2 aU:Nat),(Value.agg #[.string g.name,.slice bp bR bW,.slice I ac U])=.agg #[.string ai.name,.slice an G a9,.slice al a2 aU]∧ai∈F∧Sl J (off (fun b=>b=s∨b=wb) J) an G (ai.params.map df):=
    ⟨t,h,b3.on he.fr ab,JQ _,g,bp,bR,bW,_,_,_,rfl,bb,a4⟩
   clear hV a4 aV a3 hc e0 e1 e2;revert aF;generalize (Value.agg #[.string g.name,.slice bp bR bW,.slice I ac U])=y;intro aF;exact key X.heap.size j y _ aF
 ·
  rintro cn j y dz ⟨t,av,bH,gD,g,bp,bR,bW,I,ac,U,rfl,bA,a4⟩;obtain⟨br,ah,bj⟩:=bH.two;exact g8
 ):p:=h
end Bs
open Bs in
theorem Dw(c8:Bool)(k:Int)(d a8:Nat)(h:c8=false∧k=9∨c8=true∧k=10):SK k d a8:=by
 obtain⟨bU,aQ⟩:∃bU:Int,bU=if c8 then 4 else 3:=⟨_,rfl⟩
 have bP:=ad aQ;rcases h with⟨O,rfl⟩|⟨O,rfl⟩
 all_goals
  rw[O] at aQ;have ay:=ad aQ;clear aQ O;exact lx
namespace Bt
theorem oQ(h:p:=by
 exact gJ.simple (st:=.ite x (.eA v) .nil) ⟨s,wb,sA,bQ,a7,sl,GA,gn,gc,MA,mn,mc,FA,fn,fc,M,F,ar⟩ aB B b7 be d ps V T ls N L W aY QA ca qc bI au.1 bv dw au.2.2.2.1 cc.1 eO c2 aL ao.1 aG (ei (aV.2 ⟨cl,ck,ct,rfl,aX.2.2.2.1,ao.2.2.2.1⟩) ky (Sl.bG _) (JQ _) ao.2.2.2.2 bu.2.2.2.1 (Sl.bG _) (JQ _)) ⟨i,j.1,dy cc.1 2 x aX.2.2.1,(cW _ i i bc _ _ _ cc.1 (fun _ _ h=>h) (JQ _) bu.2.2.1.wf),mL⟩ (fun n hn=>by simp only[ax.all,al.all,Kf] at hn;obtain⟨k,ae,aC,aT⟩:=bu.2.2.1.all n hn;exact⟨k,ae,ab,aT⟩) (by simp only[ax.num,al.num];omega) aS bd.2.2 au.2.1
 ):p:=h
theorem zi(h:p:=by
 obtain⟨a0,ap,ak⟩:=aP.1.blk.two;go_wp2_with(fail);refine(aW X s sA bQ a7 sl 2 aP.1.src ab ab).mono ?_;rintro e bU ⟨b5,rfl,aJ,bF,h,he⟩;have t:=he.fr;have cv:s<X.heap.size:=aP.1.src.lt;have a5:=aP.1.next a1 h t;have bP:=aP.2.1.on t ab;have ao:=dA a5 bP (aP.2.2.1.on t ac) (aP.2.2.2.1.CK t fun b O=>ab) (aP.2.2.2.2.CK t fun b O=>ab);have bw:J.heap.size<bU.heap.size:=bP.lt;have aE:=ai t.size (fun b (ae:b<X.heap.size) (aC:¬b=s)=>t.block b ae aC);clear a0 ap ak h he t a5 aJ bF bP;have aw:=bu.2.2.1.num;by_cases aj:b5=1
 case neg=>
  have q:(b5 == 1)=false:=by simpa using aj
  clear aj;go_wp2_with(fail);have aG:=ao.2.1;exact oP
 case pos=>
  have q:(b5 == 1)=true:=by simpa using aj
  clear aj;obtain⟨a6,am,aI⟩:=ao.2.2.1.two;go_wp2_with(fail)
  first
   | rw[j.2,show IntKind.i64.wrap ((i:Nat):Int)=((i:Nat):Int) from IntWalk.i64_in _ ab]
   | rw[j.2]
  refine(cc.2.2 aU ab i 3 bc (T++decls ls) o a8 u aY ps QA ca qc bI bU ab ab (ao.1.wr au.1) (Sl.cO au.2.2.2.2.1 ao.1.fr) ab (fun k aj=>cc.2.1 k ab) (Sl.cO au.2.2.1 ao.1.fr) bm).mono ?_;rintro e ci ⟨z,bE,az,bn,br,rfl,dz,bJ,bz,ba,aZ⟩;have P:¬(J.heap.size=s∨J.heap.size=wb):=ab;have Z:=ao.2.1.on aZ P;have bx:bE≤aU:=dz.le;have ce:=dQ (ao.1.GI ba aZ) Z dz bJ bz aZ;clear dz bJ bz ba aZ a6 am aI;obtain⟨d0,ag,aR⟩:=Z.two;clear Z;go_wp2_with(fail);generalize b6:World.setCell _ _ _=Y;have aD:Fr (fun b=>b=J.heap.size) ci Y:=b6▸(Fr.refl (fun b=>b=J.heap.size) ci).setCell (.inl rfl) _;have aG:af Y J.heap.size 192 #[.int .i64 7,.string ⟨#[]⟩,.int .i64 x.aU,.int .i64 x.numOf,.string x.a1,.slice cl ck ct,.string ⟨#[]⟩,.slice none 0 0,.slice none 0 0,.slice m a3 bS,.slice az bn br]:=b6▸ce.2.1.aC 10 _;clear b6 d0 ag aR;have R:=ce.2.2.2.2.2;have bo:=ce.2.2.1.num;have bK:∀b,J.heap.size≤b→¬(b=s∨b=wb):=fun b O h=>ab;have bl:Sl X (fun b=>J.heap.size<b∧b<X.heap.size) cl ck (x.args.map bb):=ay.1;have bf:Sl X (fun b=>J.heap.size<b∧b<X.heap.size) m a3 (cP (.eA v)):=ay.2;have bA:∀b,J.heap.size<b→b<X.heap.size→Y.heap[b]?=X.heap[b]?:=fun b ae aC=>(aD.block b (oR aE.1 R.size) ab).trans ((R.block b (aH aE.1) (bK b ab)).trans (aE.2 b aC ab));have co:X.heap.size≤Y.heap.size:=by have:=aE.1;have:=R.size;have:=aD.size;omega
  have bq:Sl Y (fresh J Y) cl ck (x.args.map bb):=(bl.aj fun b O=>bA b O.1 O.2).mono fun b O=>⟨by have:=O.1;omega,by have:=O.2;omega⟩
  have bp:Sl Y (fresh J Y) m a3 (cP (.eA v)):=(bf.aj fun b O=>bA b O.1 O.2).mono fun b O=>⟨by have:=O.1;omega,by have:=O.2;omega⟩
  have a4:Sl Y (fresh J Y) az bn (cP (.eA z)):=by
   rw[ma];exact(ce.2.2.2.2.1.aj fun b O=>aD.block b O.2 (aH O.1)).mono fun b O=>⟨by have:=O.1;omega,by have:=O.2;have:=aD.size;omega⟩
  try refine hN _ _ ?_
  unfold lu;refine⟨o,a8,u,bs,on,bG,?_⟩
  iterate 240 apply Exists.intro
  refine⟨?_,rfl⟩;exact gJ.simple (st:=.ite x (.eA v) (.eA z)) ⟨s,wb,sA,bQ,a7,sl,GA,gn,gc,MA,mn,mc,FA,fn,fc,M,F,ar⟩ aB B b7 be d ps V T ls N L W aY QA ca qc bI au.1 bv dw au.2.2.2.1 cc.1 eO c2 aL (ce.1.fresh au.1 aD fun b O=>ab) aG (ei (aV.2 ⟨cl,ck,ct,rfl,aX.2.2.2.1,bq⟩) ky (Sl.bG _) (JQ _) bp bu.2.2.2.1 a4 ce.2.2.2.1) ⟨i,j.1,dy cc.1 2 x aX.2.2.1,(cW _ i i bc _ _ _ cc.1 (fun _ _ h=>h) (JQ _) bu.2.2.1.wf),(cW _ i i bc _ _ _ cc.1 (fun _ _ h=>h) (JQ _) ce.2.2.1.wf)⟩ (fun n hn=>by simp only[ax.all] at hn;exact(JZ.1 hn).elim (fun hn=>by obtain⟨k,ae,aC,aT⟩:=bu.2.2.1.all n hn;exact⟨k,ab,ab,aT⟩) (fun hn=>by obtain⟨k,ae,aC,aT⟩:=ce.2.2.1.all n hn;exact⟨k,ae,ab,aT⟩)) (by simp only[ax.num];omega) ab bd.2.2 au.2.1
 ):p:=h
theorem zd(h:p:=by
 have bh:af X J.heap.size 192 #[.int .i64 7,.string ⟨#[]⟩,.int .i64 x.aU,.int .i64 x.numOf,.string x.a1,.slice cl ck ct,.string ⟨#[]⟩,.slice none 0 0,.slice none 0 0,.slice m a3 bS,.slice none 0 0]:=hX▸(((((bu.2.1.aC 0 _).aC 2 _).aC 3 _).aC 4 _).aC 5 _).aC 9 _;exact zh
 ):p:=h
theorem z9(h:p:=by
 go_upto_region 30 with(fail);exact Av
 ):p:=h
theorem ly(h:p:=by
 exact z8
 ):p:=h
end Bt
open Bt in
theorem HR(d a8:Nat)(bH:0<d):SK 11 d a8:=by
 exact lx
namespace Bu
theorem oQ(h:p:=by
 exact gJ.simple (st:=.gb x (.eA v)) ⟨s,wb,sA,bQ,a7,sl,GA,gn,gc,MA,mn,mc,FA,fn,fc,M,F,ar⟩ aB B b7 be d ps V T ls N L W aY QA ca qc bI au.1 bv dw au.2.2.2.1 cc.1 eO c2 aL aP.1 aG (ei (aV.2 ⟨cl,ck,ct,rfl,aX.2.2.2.1,aP.2.2.2.1⟩) ky (Sl.bG _) (JQ _) aP.2.2.2.2 bu.2.2.2.1 (Sl.bG _) (JQ _)) ⟨i,j.1,dy cc.1 2 x aX.2.2.1,(cW _ i i bc _ _ _ cc.1 (fun _ _ h=>h) (JQ _) bu.2.2.1.wf)⟩ (fun n hn=>by obtain⟨k,ae,aC,aT⟩:=bu.2.2.1.all n hn;exact⟨k,ae,ab,aT⟩) (by simp only[ax.num];omega) aS bd.2.2 au.2.1
 ):p:=h
theorem zi(h:p:=by
 go_wp2_with(fail);have aw:=bu.2.2.1.num;have aG:=aP.2.1;exact oP
 ):p:=h
theorem zd(h:p:=by
 have bh:af X J.heap.size 192 #[.int .i64 8,.string ⟨#[]⟩,.int .i64 x.aU,.int .i64 x.numOf,.string x.a1,.slice cl ck ct,.string ⟨#[]⟩,.slice none 0 0,.slice none 0 0,.slice m a3 bS,.slice none 0 0]:=hX▸(((((bu.2.1.aC 0 _).aC 2 _).aC 3 _).aC 4 _).aC 5 _).aC 9 _;exact zh
 ):p:=h
theorem z9(h:p:=by
 go_upto_region 34 with(fail);exact Av
 ):p:=h
theorem ly(h:p:=by
 exact z8
 ):p:=h
end Bu
open Bu in
theorem HS(d a8:Nat)(bH:0<d):SK 12 d a8:=by
 exact lx
theorem HQ(b5:Int)(I:0≤b5)(am:b5<14)(d a8:Nat):SK b5 d a8:=by
 by_cases a9:b5<4
 ·exact Dy false b5 d a8 (.inl ⟨rfl,a9⟩)
 by_cases g:b5<7
 ·exact Dy true b5 d a8 (.inr ⟨rfl,a9,g⟩)
 have aj:b5=7∨b5=8∨b5=9∨b5=10∨b5=11∨b5=12∨b5=13:=ab;rcases aj with rfl|rfl|rfl|rfl|rfl|rfl|rfl
 ·exact GP d a8
 ·by_cases bD:0<a8
  ·exact GO d a8 ab
  ·exact xt 8 d a8 ab
 ·exact Dw false 9 d a8 (by simp)
 ·exact Dw true 10 d a8 (by simp)
 ·by_cases hd:0<d
  ·exact HR d a8 ab
  ·exact xt 11 d a8 ab
 ·by_cases hd:0<d
  ·exact HS d a8 ab
  ·exact xt 12 d a8 ab
 ·exact xt 13 d a8 ab
def H0(p:j7)(aB B:Nat)(b7 be:Value)(d:Nat)(ps:List (ByteArray×Bool))(V T:Ks)(W:World)(aM:Nat)(aY:ByteArray)(QA:Kr)(ca qc:Nat)(bI:Value)(o:Kr)(a8 u:Nat)(bs:Kr)(on bG:Nat)(N:Int)(w:World):Prop:=∃(bc:Ks) (ls:List ax) (L:Nat),
 N≤7∧oa p W w L∧af w aB 143 #[.string aY,.slice QA ca qc,bI]∧k4 B 9 1 192 11 w o a8 u (bc.map D.s) bs on bG (ls.map a2)∧Made (p.env ps) d V T aM L ls∧bc ⊆ V++decls ls∧bc.length+L≤60
def qz(p:j7)(aB B:Nat)(b7 be:Value)(d:Nat)(ps:List (ByteArray×Bool))(V T:Ks)(W:World)(aM:Nat)(aY:ByteArray)(QA:Kr)(ca qc:Nat)(bI:Value)(a:Act)(w:World):Prop:=∃(o:Kr) (a8 u:Nat) (bs:Kr) (on bG:Nat) (N:Int) (gC Z u8 gF eH b9 u16 gj gk eJ eK eM eP eQ eR eS eT eU eV eW eX eY u32 e3 e5 e6 e7 e8 e9 fa fb fd fe ff fh fi fj fk fl fm fo fp fq fr fs ft fu fv fw fx fy fz fA fB u64 fC fD fE fF fG fH fI fL fM fN fO fP fQ fR fS fT fU fV fW fX fY fZ f3 f4 f5 f6 f7 f8 f9 ga gb ge gf gg gh H ag aI aR a6 a9 bf bh bi bo bx bK bP bQ bY bZ b1 b2 b3 cb cd cj ck cm co cp cq cr ct cu cv cx cy cz cA cC cD cE cF cG cH cI cJ cK cL cM cN cO cP cQ cR cS cT cU cV cW cX cY cZ c4 c5 c6 c7 c8 c9 da db dd de dg dh di dj dk dl dm dn dp dq dr ds dt du dx dy dB dC dD dE dF dG dH dI dJ dK dM dN dO dP dQ dR dS dT dU dV dX dY dZ d0 d1 d2 d3 d4 d5 d6 d7 d8 d9 ea eb ec ed ee ef eg eh ei ej ek el em en eo ep eq er es et eu ev ew ex ey ez eA eB eC eF eG ax bL:Value),H0 p aB B b7 be d ps V T W aM aY QA ca qc bI o a8 u bs on bG N w∧a=⟨#[.pointer (some ⟨p.wb,0,none⟩),b7,.slice o a8 u,.int .i64 (d:Int),be,gC,.pointer (some ⟨aB,0,none⟩),Z,u8,gF,eH,.slice bs on bG,.int .i64 N,ax,bL,b9,u16,gj,gk,eJ,eK,eM,eP,eQ,eR,eS,eT,eU,eV,eW,eX,eY,u32,e3,e5,e6,e7,e8,e9,fa,fb,fd,fe,ff,fh,fi,fj,fk,fl,fm,fo,fp,fq,fr,fs,ft,fu,fv,fw,fx,fy,fz,fA,fB,u64,fC,fD,fE,fF,fG,fH,fI,fL,fM,fN,fO,fP,fQ,fR,fS,fT,fU,fV,fW,fX,fY,fZ,f3,f4,f5,f6,f7,f8,f9,ga,gb,ge,gf,gg,gh,H,ag,aI,aR,a6,a9,bf,bh,bi,bo,bx,bK,bP,bQ,bY,bZ,b1,b2,b3,cb,cd,cj,ck,cm,co,cp,cq,cr,ct,cu,cv,cx,cy,cz,cA,cC,cD,cE,cF,cG,cH,cI,cJ,cK,cL,cM,cN,cO,cP,cQ,cR,cS,cT,cU,cV,cW,cX,cY,cZ,c4,c5,c6,c7,c8,c9,da,db,dd,de,dg,dh,di,dj,dk,dl,dm,dn,dp,dq,dr,ds,dt,du,dx,dy,dB,dC,dD,dE,dF,dG,dH,dI,dJ,dK,dM,dN,dO,dP,dQ,dR,dS,dT,dU,dV,dX,dY,dZ,d0,d1,d2,d3,d4,d5,d6,d7,d8,d9,ea,eb,ec,ed,ee,ef,eg,eh,ei,ej,ek,el,em,en,eo,ep,eq,er,es,et,eu,ev,ew,ex,ey,ez,eA,eB,eC,eF,eG],[]⟩
def DW(a:Act)(_:World):Nat:=(intOf (a.tmps.getD 12 undef)).toNat
theorem E2(p:j7)(aB B:Nat)(b7 be:Value)(d:Nat)(ps:List (ByteArray×Bool))(V T:Ks)(W:World)(aM:Nat)(aY:ByteArray)(QA:Kr)(ca qc:Nat)(bI:Value)(i:gd W p aM)(k:Sl W (off p.MW W) QA ca (ps.map df))(bV:W.heap.size≤aB)(dw:aB<B)(bH:B≤aB+1)(bm:ca≤2)(bX:d≤2)(y:l0 T aM)(K:∀X,X<aM→G2 p X)(dc:Exit→Act→World→Prop)(hQ0:∀c a d v w,dc (.panic c) (a.put d v) w→dc (.panic c) a w)(t:∀r j,qz p aB B b7 be d ps V T W aM aY QA ca qc bI r j→dc (.exit 0) r j)
  (a:Act) (wr:World) (hI:qz p aB B b7 be d ps V T W aM aY QA ca qc bI a wr):Code.wp prog wu (Exit.then (fun r j=>qz p aB B b7 be d ps V T W aM aY QA ca qc bI r j∧DW r j<DW a wr) dc) a wr:=by
 obtain⟨s,wb,sA,bQ,a7,sl,GA,gn,gc,MA,mn,mc,FA,fn,fc,M,F,ar⟩:=p;unfold qz at hI;obtain⟨o,a8,u,bs,on,bG,N,hI⟩:=hI
 iterate 241 obtain⟨_,hI⟩:=hI
 obtain⟨hI,rfl⟩:=hI;have au:=ad hI;obtain⟨bc,ls,L,bb,hC,aw,hG,hM,hV,eO⟩:=hI;have a1:=i.ne;have b4:=i.src.lt;have eI:=i.blk.lt;simp only at a1 b4 eI;obtain⟨a0,ap,ak⟩:=hC.blk.two;have cg:bc.length=a8:=by have:=hG.one.len;simpa using this
 have aa:ls.length=on:=by have:=hG.two.len;simpa using this
 have aJ:=hC.le;have bt:=hM.le;have aP:=i.kr;have aZ:on≤48:=by
  have ae:=hM.num;have aC:=tE ls;have aT:=i.kr;omega
 have ax:=dA hC aw hG hM hV;have bd:=bw i k y K;clear hC aw hG hM hV i k y K;by_cases hA:0<N
 case neg=>
  have q:decide (N > 0)=false:=by simp;omega
  exact yO
 by_cases a6:0<L
 case neg=>
  have q:decide (N > 0)=true:=by simpa using hA
  obtain rfl:L=0:=ab;exact yO
 obtain⟨X,rfl⟩:∃X,L=X+1:=⟨L - 1,ab⟩
 have aS:(0:Int)<((X+1:Nat):Int):=ab;clear au;conv=>arg 2;whnf
 go_upto_region 7 with(fail);generalize hX:World.setCell _ _ _=J;have bu:Fr (fun b=>b=wb) wr J:=hX▸(Fr.refl (fun b=>b=wb) wr).setCell (.inl rfl) _;have cd:af J wb 170 #[.pointer (some ⟨s,0,none⟩),.slice GA gn gc,.slice MA mn mc,.slice FA fn fc,.int .i64 X,.bool ar]:=hX▸ax.1.blk.aC 4 _;have ao:oa ⟨s,wb,sA,bQ,a7,sl,GA,gn,gc,MA,mn,mc,FA,fn,fc,M,F,ar⟩ W J X:=⟨ax.1.src.cG bu (fun b O h=>by simp only at O;omega),cd,ax.1.fr.trans (bu.mono fun _ h=>.inr h),ab⟩
 have x:=ax.2.1.on bu ab;have ah:=ax.2.2.1.cO bu (fun b O _=>ab);have ba:=aQ ao x ah;have bN:aB<J.heap.size:=x.lt;clear hX bu cd ao x ah a0 ap ak;obtain⟨a0,ap,ak⟩:=ba.1.blk.two;go_upto_region 8 with(fail);generalize U:World.alloc _ _=aN;have aG:Ext J aN:=U▸Kn.alloc _;have aD:af aN J.heap.size 192 #[.int .i64 5,.string ⟨#[]⟩,.int .i64 0,.int .i64 0,.string ⟨#[]⟩,.slice none 0 0,.string ⟨#[]⟩,.slice none 0 0,.slice none 0 0,.slice none 0 0,.slice none 0 0]:=U▸Ko;have P:oa ⟨s,wb,sA,bQ,a7,sl,GA,gn,gc,MA,mn,mc,FA,fn,fc,M,F,ar⟩ J aN X:=⟨ba.1.src.cG aG (fun _ _ h=>h),ba.1.blk.ak aG,aG.mono fun _ h=>h.elim,ba.1.le⟩
 have H1:=ai P aD;clear U aG aD P a0 ap ak;obtain⟨a0,ap,ak⟩:=H1.1.blk.two;go_wp2_with(fail);refine(aW aN s sA bQ a7 sl 14 H1.1.src ab ab).mono ?_;rintro e aO ⟨b5,rfl,I,am,h,he⟩;have bf:=H1.1.next a1 h he.fr;have cV:=H1.2.on he.fr ab;have aE:=ai bf cV;clear h he bf cV a0 ap ak H1;go_upto_region 14 with(fail);have h0:=ba.1.wr bd.1;have aV:∀b,(⟨s,wb,sA,bQ,a7,sl,GA,gn,gc,MA,mn,mc,FA,fn,fc,M,F,ar⟩:j7).MW b→b<B:=fun b O=>by rcases O with O|O<;>(simp only at O;omega)
 refine HQ b5 I am d a8 ⟨s,wb,sA,bQ,a7,sl,GA,gn,gc,MA,mn,mc,FA,fn,fc,M,F,ar⟩ aB B b7 be ps V T ls N J X W aY QA ca qc bI bc o u bs on bG X (by simp only;omega) ab ab bm aO h0.ne h0.src.lt h0.blk.lt (by have:=ba.2.2.one.len;simpa using this) aE.1.fr.size (ad ⟨h0,ba.2.1,Sl.cO bd.2.1 ba.1.fr,ba.2.2,ba.2.2.names aV,aV⟩) (ad ⟨aE.1,ba.2.1.on aE.1.fr (fun h=>by rcases h with h|h<;>(simp only at h;omega)),aE.2⟩) ab ab bX (ad ⟨ax.2.2.2.2,ax.2.2.2.1.free ab bd.2.2.1,fun a5 a3=>bd.2.2.2 a5 ab⟩) aM (ad ⟨bd.1,bd.2.1,ba.1.fr⟩) bV _ ?hQ ?hN _ (by assumption)
 case hQ=>exact fun c a d v w h=>hQ0 _ _ _ _ _ h
 case hN=>
  intro r ac hp;unfold lu at hp;obtain⟨Q,aI,aq,aA,G5,aH,hp⟩:=hp
  iterate 240 obtain⟨_,hp⟩:=hp
  obtain⟨hF,rfl⟩:=hp;obtain⟨aL,m,st,bE,cs,R,l,n,Y,al,S,aK,z,hle,Z,aF,a4⟩:=hF;obtain⟨eo,en,es,EA,em,ec,rs,cj,a9,rc,ce,n1,c1,A2,n2,c2,cf,n3,c3,rfl,_⟩:=k1 al;obtain⟨d0,ag,aR⟩:=Y.two;have aX:=s7 R l n al S aK z Z;have aU:aB<ac.heap.size:=l.lt;have bO:B≤ac.heap.size:=ab;clear R l n Y al S aK z Z;clear aE
  try dsimp only[Exit.inBlock,Exit.then]
  go_wp2_with(at_builtin;refine bR od rfl (.tmp 244) (.tmp 246) rfl aX.2.2.1.two aX.2.2.2.1 rfl rfl rfl ab ab bO ?_;intro cl bP cx an ay b8 bJ;have dm:=aQ an ay b8;clear an ay b8 bJ);refine⟨?_,by simp[DW,intOf];omega⟩;obtain⟨R,l,n,al,S,aK,z,Z⟩:=aX.o;obtain⟨bn,az,bp⟩:=dm.o;have av:∀b,(Value.slice aA G5 aH).ownBlock=some b→B≤b:=fun b O=>(n.two.lt O).1;unfold qz;refine⟨Q,aI,aq,cl,G5+1,bP,N - 1,?_⟩
  iterate 241 apply Exists.intro
  refine⟨?_,rfl⟩;refine⟨aL,ls++(m++[st]),bE,ab,R.fresh bd.1 az (fun b O=>by have:=av b O;omega),l.on az (fun O=>by have:=av _ O;omega),?_,ax.2.2.2.1.snoc S aK z ab,Z,aF⟩;have aj:(ls++(m++[st])).map a2=(ls++m).map a2++[a2 st]:=by simp
  rw[aj];exact(n.swap.grow bn az bp).swap
theorem GU(p:j7)(aB B:Nat)(b7 be:Value)(d:Nat)(ps:List (ByteArray×Bool))(V T:Ks)(W:World)(aM:Nat)(aY:ByteArray)(QA:Kr)(ca qc:Nat)(bI:Value)(i:gd W p aM)(k:Sl W (off p.MW W) QA ca (ps.map df))(bV:W.heap.size≤aB)(dw:aB<B)(bH:B≤aB+1)(bm:ca≤2)(bX:d≤2)(y:l0 T aM)(K:∀X,X<aM→G2 p X)(dc:Exit→Act→World→Prop)(hQ0:∀c a d v w,dc (.panic c) (a.put d v) w→dc (.panic c) a w)(t:∀r j,qz p aB B b7 be d ps V T W aM aY QA ca qc bI r j→dc (.exit 0) r j)
  (o:Kr) (a8 u:Nat) (bs:Kr) (on bG:Nat) (N:Int) {gC Z u8 gF eH b9 u16 gj gk eJ eK eM eP eQ eR eS eT eU eV eW eX eY u32 e3 e5 e6 e7 e8 e9 fa fb fd fe ff fh fi fj fk fl fm fo fp fq fr fs ft fu fv fw fx fy fz fA fB u64 fC fD fE fF fG fH fI fL fM fN fO fP fQ fR fS fT fU fV fW fX fY fZ f3 f4 f5 f6 f7 f8 f9 ga gb ge gf gg gh H ag aI aR a6 a9 bf bh bi bo bx bK bP bQ bY bZ b1 b2 b3 cb cd cj ck cm co cp cq cr ct cu cv cx cy cz cA cC cD cE cF cG cH cI cJ cK cL cM cN cO cP cQ cR cS cT cU cV cW cX cY cZ c4 c5 c6 c7 c8 c9 da db dd de dg dh di dj dk dl dm dn dp dq dr ds dt du dx dy dB dC dD dE dF dG dH dI dJ dK dM dN dO dP dQ dR dS dT dU dV dX dY dZ d0 d1 d2 d3 d4 d5 d6 d7 d8 d9 ea eb ec ed ee ef eg eh ei ej ek el em en eo ep eq er es et eu ev ew ex ey ez eA eB eC eF eG ax bL:Value} (wr:World) (hI:H0 p aB B b7 be d ps V T W aM aY QA ca qc bI o a8 u bs on bG N wr):Code.wp prog (Code.loop wu) dc ⟨#[.pointer (some ⟨p.wb,0,none⟩),b7,.slice o a8 u,.int .i64 (d:Int),be,gC,.pointer (some ⟨aB,0,none⟩),Z,u8,gF,eH,.slice bs on bG,.int .i64 N,ax,bL,b9,u16,gj,gk,eJ,eK,eM,eP,eQ,eR,eS,eT,eU,eV,eW,eX,eY,u32,e3,e5,e6,e7,e8,e9,fa,fb,fd,fe,ff,fh,fi,fj,fk,fl,fm,fo,fp,fq,fr,fs,ft,fu,fv,fw,fx,fy,fz,fA,fB,u64,fC,fD,fE,fF,fG,fH,fI,fL,fM,fN,fO,fP,fQ,fR,fS,fT,fU,fV,fW,fX,fY,fZ,f3,f4,f5,f6,f7,f8,f9,ga,gb,ge,gf,gg,gh,H,ag,aI,aR,a6,a9,bf,bh,bi,bo,bx,bK,bP,bQ,bY,bZ,b1,b2,b3,cb,cd,cj,ck,cm,co,cp,cq,cr,ct,cu,cv,cx,cy,cz,cA,cC,cD,cE,cF,cG,cH,cI,cJ,cK,cL,cM,cN,cO,cP,cQ,cR,cS,cT,cU,cV,cW,cX,cY,cZ,c4,c5,c6,c7,c8,c9,da,db,dd,de,dg,dh,di,dj,dk,dl,dm,dn,dp,dq,dr,ds,dt,du,dx,dy,dB,dC,dD,dE,dF,dG,dH,dI,dJ,dK,dM,dN,dO,dP,dQ,dR,dS,dT,dU,dV,dX,dY,dZ,d0,d1,d2,d3,d4,d5,d6,d7,d8,d9,ea,eb,ec,ed,ee,ef,eg,eh,ei,ej,ek,el,em,en,eo,ep,eq,er,es,et,eu,ev,ew,ex,ey,ez,eA,eB,eC,eF,eG],[]⟩ wr:=by
 refine wp_loop (qz p aB B b7 be d ps V T W aM aY QA ca qc bI) DW ?_ (fun a j hI=>E2 p aB B b7 be d ps V T W aM aY QA ca qc bI i k bV dw bH bm bX y K dc hQ0 t a j hI);unfold qz
 iterate 248 apply Exists.intro
 exact⟨hI,rfl⟩
end Go.Proofs.YtbkhhfajcgkpgaaGreat

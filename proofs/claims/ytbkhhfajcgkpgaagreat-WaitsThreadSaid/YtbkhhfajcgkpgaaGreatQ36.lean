/- Part 36 of the proof. No condition of its own. -/
import Derived.Test.YtbkhhfajcgkpgaaGreatQ22
namespace Go.Proofs.YtbkhhfajcgkpgaaGreat
open Go.RowKit Go.Proofs.Tryz
set_option maxRecDepth 1000000
set_option maxHeartbeats 25600000
set_option linter.unusedVariables false
variable{p:Prop}
namespace BQ
theorem gq(h:p:=by
 refine cw ?_;generalize hX:World.setCell _ _ _=Z;obtain⟨bC,bl,bn⟩:=cb (w:=w) [.slice ce gn c1,.slice A2 (own u.ae).length (own u.ae).length,.slice cf 1 1,.int .i64 0] (by rfl) j.2.2.2.2.1 j.2.2.2.2.2 ab hX;have ba:=ai bl bn;clear hX bl bn bv bd be;obtain⟨bv,bd,be⟩:=bC.two;clear bC;go_wp2_with(fail);refine Km (v:=.agg #[.slice ce gn c1,.slice A2 (own u.ae).length (own u.ae).length,.slice cf 1 1,.int .i64 0]) (by simp[results,Tryz.results84,go_sem,bv]) rfl ?_;have bu:=ba.2.size;have bN:u.globals.length=gn:=by have:=(ax.2.2).at_.g.1;rw[JU] at this;exact this
 have bz:∀b,W.heap.size≤b→b<V.heap.size→Z.heap[b]?=V.heap[b]?:=fun b ae aC=>ba.2.block b aC ab;have hm:∀b,W.heap.size≤b→b<V.heap.size→(False∨(w.heap.size≤b∧b<Z.heap.size)):=fun b ae aC=>.inr ⟨ab,ab⟩;have ah:=j.1.aj (ac:=Z) fun b O=>bz b (j.2.1 b O).1 (j.2.1 b O).2;rw[En];have bh:dV u u.main [] []=⟨u.main,0,List.replicate L 0,[]⟩:=by unfold dV;rw[cm.2.1];simp
 rw[bh];exact⟨⟨ce,gn,c1,A2,(own u.ae).length,(own u.ae).length,cf,1,1⟩,rfl,⟨⟨ah.sl (cy _) (by rw[JU];exact bN) fun b O=>hm b (j.2.1 b O).1 (j.2.1 b O).2,(j.2.2.1.aj fun b O=>bz b O.1 O.2.1).mono fun b O=>hm b O.1 O.2.1,(j.2.2.2.1.aj fun b O=>bz b O.1 O.2.1).mono fun b O=>hm b O.1 O.2.1⟩,ah.cap,JQ _,JQ _⟩,ba.1⟩
 ):p:=h
theorem r2(h:p:=by
 have ax:=aQ aF b8 (cc.on aF);have cA:=aF.size;have df:=b8.lt;have aa:=(aF.cell cm.2.2.1 fun h=>h).trans cm.2.2.2;have bb:pb<W.heap.size:=JR cm.2.2.1 aF.size;obtain⟨a0,ap,ak⟩:=aL.two;obtain⟨ws,nH⟩:∃ws,ws=W.heap.size:=⟨_,rfl⟩
 have cF:w.heap.size<ws:=ab;have N:pb<ws:=ab;have bG:=ad nH;clear bg aF aL b8 nH;refine tX (fun k=>¬k<ws) [24] (.free 1 (.held 2 (.free 4 (.held 5 (.free 9 (.held 10 (.free 11 (.held 12 (.free 13 (.held 14 (.free 15 (.free 16 (.held 17 (gA 8 0 0)))))))))))))) ?_;refine tf ?_;refine n8 ?_;refine tf ?_;refine n8 ?_;refine tf ?_;refine n8 ?_;refine tf ?_;refine n8 ?_;refine tf ?_;refine n8 ?_
 iterate 2 refine tf ?_
 refine n8 ?_;have a1:Ext W W.drew:=(Fr.refl _ W).drew;refine Er (W:=W) (gs:=u.globals) (gn:=gn) (gc:=gc) (mn:=mn) (mc:=mc) (L:=L) (ws:=ws) (GA:=GA) (MA:=MA) (mi:=u.main) (X:=u.ae) (p0:=?Jn) (a0:=?I2) (p3:=?Jv) (a3:=?Ja) (p6:=?JJ) (a6:=?JD) (p7:=?Jw) (a7:=?Jb) (p8:=?Jx) (a8:=?Jc) (p18:=?Jq) (a18:=?I5) (p19:=?Jr) (a19:=?I6) (p20:=?Js) (a20:=?I7) (p21:=?Jt) (a21:=?I8) (p22:=?Ju) (a22:=?I9) ?hG xW ?hM ?hX cW ?nH ?o0 ?o3 ?o6 ?o7 ?o8 ?Im ?Io ?Ip ?Iq ?Ir ?hv 8 0 0 ab ab ab undef undef undef undef undef undef undef undef undef undef [] W.drew a1 ?sA ?sB
 case hG=>exact ax.2.2.at_.g
 case hM=>exact ax.2.2.at_.m.qG
 case hX=>exact cm.1.ok.DM
 case nH=>have:=bG.o;omega
 case o0=>rfl
 case o3=>rfl
 case o6=>rfl
 case o7=>rfl
 case o8=>rfl
 case Im=>rfl
 case Io=>rfl
 case Ip=>rfl
 case Iq=>rfl
 case Ir=>rfl
 case sA=>exact⟨.inl ⟨rfl,rfl,.inl ⟨rfl,rfl,rfl,rfl⟩⟩,fun h=>ab,fun h=>ab,fun k aj=>by simp at aj⟩
 case sB=>exact⟨fun h=>ab,fun h=>ab,fun h=>ab⟩
 case hv=>
  intro r v6 bK v10 v11 m q s t y E V bf bk aL;obtain⟨ce,c1,F,rfl,cq,I⟩:∃A c F,v6=.slice A gn c∧Own V 3 1 A gn c (u.globals.map eC) F∧∀k∈F,W.heap.size≤k∧k<V.heap.size:=by
   rcases bk.g with⟨h,_⟩|⟨h,_⟩|⟨_,_,F,h,hF⟩
   ·omega
   ·omega
   ·rcases h with⟨h,_⟩|⟨h,_⟩|⟨_,A,c,ae,aC⟩
    ·omega
    ·omega
    ·exact⟨A,c,F,ae,aC,hF⟩
  obtain⟨A2,rfl,bs⟩:=bk.t ab;obtain⟨cf,rfl,br⟩:=aL.h ab;have z:=ax.2.1.ak bf;have g:=ax.1.trans bf;have cM:=bf.size;have j:=dQ cq I bs br z g;obtain⟨bv,bd,be⟩:=z.two;clear cq I bs br z g bk aL bf a0 ap ak aa;refine tf ?_;exact g8
 ):p:=h
theorem g7(h:p:=by
 have aL:af W w.heap.size 26 #[.slice GA gn gc,.slice MA mn mc,.slice (some ⟨pb,gL,none⟩) pn pc,.int .i64 u.main]:=bg▸(Ko).alloc _;exact r0
 ):p:=h
end BQ
open BQ in
theorem IC(u:av)(w:World)(p:UV)(hU:yy u)(hu:p.Ok w u) :
  Calls prog 84 #[.agg (p.val u)] w (Hf (fun _=>False) w (ew u)):=by
 obtain⟨GA,gn,gc,MA,mn,mc,PA,pn,pc⟩:=p;obtain⟨l,ci,cJ,aS,ay⟩:=hU.ok.main;have i:=hU.ok.procs l (JT cJ);have cH:=i.ints;have xW:gn≤100000:=by have ae:=hu.at_.g.1;have aC:=hU.ok.pK;rw[JU] at ae;have aT:u.globals.length=gn:=ae;omega
 have bb:=hu.at_.p.1;rw[JU] at bb;simp only at bb;have cd:=(List.getElem?_eq_some_iff.1 cJ).1;obtain⟨pb,gL,c8,bI,bZ,bO,e,eI,bV,cj,cr,bm,aa,cI,_,_⟩:=hu.at_.proc (k:=u.main.toNat) (by show u.main.toNat<pn;omega);simp only at e;subst e;rw[cJ] at bV;injection bV with bV;subst bV;obtain⟨L,bt⟩:=JV (a:=l.locals) ab;rw[bt] at aa;have cW:L≤100000:=ab;have cn:u.main<(pn:Int):=ab;have aM:fT u u.main=L:=by unfold fT;rw[cJ];simp[bt]
 have cm:=bw hU aM eI aa;have cc:=ad hu;clear hU cJ aS ay i cH hu bb cd cj cr bm aa cI bt aM;dsimp only[UV.val];go_enter func84,ntmps84;exact g6
theorem Fr.C0{M M':Nat→Prop}{a b:World}(h:Fr M a b)(hM:∀k,k<a.heap.size→M k→M' k):Fr M' a b:=⟨h.os,h.tape,h.output,h.size,fun k aj hn=>h.block k aj fun hm=>hn (hM k aj hm)⟩
def xc(g:Nat)(w:World):Nat:=match w.cell? ⟨g,2,none⟩ with|some (.slice _ n _)=>n|_=>0
def F0(w:World)(u:av)(x:ay)(a b:List Int×Int)(e:Ending)(ac:World):Prop:=∃(aL aU:Int) (IA:Kr) (i ic:Nat) (bj:Kr) (l lc:Nat) (z:Int),e=.returned (.tuple #[.agg #[.int .i64 aL,.int .i64 aU,.slice IA i ic,.slice bj l lc],.int .i64 z])∧Ext w ac∧
 (a.2≠0→z=a.2)∧(a.2=0→b.2≠0→z=b.2)∧(a.2=0→b.2=0→z=0∧(hh (dV u x.target a.1 b.1)).rep ac (fresh w ac) [.int .i64 aL,.int .i64 aU,.slice IA i ic,.slice bj l lc])
namespace BZ
theorem uY(h:p:=by
 have bc:=ai a4 bJ;obtain⟨d0,ag,aR⟩:=(ax.2.2.2.1.ak T).two;obtain⟨a6,am,aI⟩:=(ax.2.2.1.ak T).two;obtain⟨f0,dw,eN⟩:=(cm.2.ak y).two;clear a4 bJ cv Z a3 O aF aL hG V T y;go_upto_region 6 with(fail);refine eE (fun _=>False) [(0,3),(1,0),(2,3),(3,3),(4,0),(5,3),(6,0),(7,3),(8,0),(9,2),(10,3),(11,3),(12,3),(13,3),(14,3)] ?_;refine pf ?_;refine ph ?_
 iterate 2 refine pf ?_
 refine ph ?_;refine pf ?_;refine ph ?_;refine pf ?_;refine ph ?_;refine aq rfl (fun K hK=>?_);go_simp;have a1:Ext wr wr.drew:=(Fr.refl _ wr).drew;obtain⟨cG,cR⟩:=aP.1.Hw (aP.2.1 ex (JT bc.1)) ((ax.2.2.2.2.2.1.on aX.2.2.2.2.1).on a1).at_.g ((ax.2.2.2.2.2.2.2.1.on aX.2.2.2.2.1).on a1).ints (D.on bc.2 (Fr.ext a1));refine(m7 ex wr.drew bp IA bQ i a7 ic s.globals f.ints _ _ _ _ cG cR).mono ?_;rintro e aO ⟨rfl,bx⟩;have J:=ad (show Ext wr aO from Fr.aO (Fr.of bx));have aD:=fun bi=>rh (k:=k) aX.2.2.2.1 bc.1 bi;generalize a2:ev s.globals f.ints ex=R at *;obtain⟨r,z⟩:=R;have bs:=ai aD a2;clear aD a2 bx a1 d0 ag aR a6 am aI f0 dw eN c0 c1 c2 c3 aW cG cR;refine eD hK ?_;clear hK K
 iterate 5 refine pf ?_
 refine aA ?_;have bH:=aX.2.1.ak J.o;have bY:=ad bH;obtain⟨e0,a5,aZ⟩:=bH.two;have cu:=J.size;by_cases bi:z=0
 ·have q5:(z != 0)=false:=by simpa using bi
  have al:=ad (aX.2.2.1.ak J.o);have ba:=ad bi;clear bi bH;go_wp2_with(at_builtin;refine bR dm rfl (.tmp 53) (.tmp 55) rfl al.o (d:=D.i r) (cs:=#[.int .i64 r]) (by simp only[D.rep]) rfl rfl rfl ab ab ab ?_;intro cf bz bU b7 g2 ca cJ;have bP:=bY.on g2 (fun hm=>by have:=(al.lt hm).1;omega);clear e0 a5 aZ;obtain⟨e0,a5,aZ⟩:=bP.two;have bW:=aQ b7 g2 bP;clear b7 g2 ca cJ bP);generalize hX:World.setCell _ _ _=X;have bh:af X U.heap.size 100 #[.int .i64 x.target,.int .i64 0,.slice cf (k+1) bz,.slice none 0 0]:=hX▸bW.2.2.aC 2 _;have bq:Fr (fun b=>b=U.heap.size) bU X:=hX▸(Fr.refl (fun b=>b=U.heap.size) _).setCell (.inl rfl) _;have b0:Fr (fun b=>b=U.heap.size) Y X:=Fr.C0 (M:=fun b=>b=U.heap.size∨(Value.slice A k c).ownBlock=some b) (Fr.trans (Fr.trans (Fr.mono (Fr.trans aX.1 (Fr.mono J.o fun _ h=>h.elim)) fun _ h=>.inl h) (Fr.mono bW.2.1 fun _ h=>.inr h)) (Fr.mono bq fun _ h=>.inl h)) fun b O hm=>hm.elim id fun hm=>absurd (al.lt hm).1 ab;have cz:=bW.1.cO bq fun b O _=>⟨fun h=>h,by rw[O];omega⟩
  have P:=aQ bh b0 cz;clear hX bh bq b0 cz e0 a5 aZ;go_roundw
  case rel=>
   refine⟨k+1,cf,bz,by go_num,ab,P.2.1,P.1,?_,fun e he=>?_⟩
   ·rw[a9 bc.1,JX,JX];exact y1
   ·rw[a9 bc.1] at he;rcases JZ.1 he with he|he
    ·exact aX.2.2.2.1 e he
    ·rw[Kh.1 he,bs.2];exact ba.o
  case measure=>exact aB
 ·have q5:(z != 0)=true:=by simpa using bi
  have bX:=ad (bs.1 bi);have ba:=ad bi;have ar:=aX.2.2.2.2.1.trans J.o;have cq:=ax.2.2.2.2.2.2.2.2.ak ar;have cA:=ai cq (ax.1.trans ar);obtain⟨bv,bd,be⟩:=cq.two;clear bi bH ar cq;go_wp2_with(fail);generalize hX:World.setCell _ _ _=X;obtain⟨bh,bo,b0⟩:=cb (w:=w) [.int .i64 x.target,.int .i64 0,.slice A k c,.slice none 0 0] (by rfl) cA.1 cA.2 ab hX;have P:=ad bo;clear hX bo b0 bv bd be e0 a5 aZ;obtain⟨bv,bd,be⟩:=bh.two;refine Km (v:=.tuple #[.agg #[.int .i64 x.target,.int .i64 0,.slice A k c,.slice none 0 0],.int .i64 z]) (by simp[results,Tryz.results50,go_sem,bv]) rfl ?_;refine⟨_,_,_,_,_,_,_,_,z,rfl,P.o,fun _=>by rw[bX.o],fun h=>absurd h ?_,fun h=>absurd h ?_⟩
  ·rw[bX.o];exact ba.o
  ·rw[bX.o];exact ba.o
 ):p:=h
theorem fM(h:p:=by
 obtain⟨eo,en,es,EA,em,ec,QA,qm,qc,cN,j,cy,KA,cK,kc⟩:=v;obtain⟨bf,a8,b2,cE,n,fc,IA,i,ic,bj,l,lc,e,hT⟩:=hs.at_.top h.sm h.ht;simp only at e;subst e;obtain⟨cL,cO,cT,b5⟩:=h.args aE;have aT:x.ints.length=j:=by have:=bD.ints.1;simpa using this
 have bN:x.places.length=cK:=by have:=bD.places.1;simpa using this
 have cU:j≤200:=by have:=h.il;omega
 have cX:cK≤200:=by have:=h.kl;omega
 have aP:=dQ h cL cO aT bN b5;have cc:=bw hu hs bD hT;clear h cL cO aT bN b5 hu hs bD hT;dsimp only[UV.val,SV.val,IV.val];go_enter func50,ntmps50;go_upto_region 1 with(fail);generalize bg:World.alloc _ _=W;have aF:Ext w W:=bg▸(((Kn.alloc _).alloc _).alloc _).alloc _;have bG:af W w.heap.size 26 #[.slice GA gn gc,.slice MA mn mc,.slice PA pn pc,.int .i64 u.main]:=bg▸(((Ko).alloc _).alloc _).alloc _;have aY:af W (w.heap.size+1) 30 #[.slice bp bQ a7,.slice TA tn tc,.slice (some ⟨bf,a8,none⟩) hn hc,.int .i64 s.fault]:=bg▸((af.ct _ _ _ (by simp)).alloc _).alloc _;have aU:af W (w.heap.size+2) 62 #[.int .i64 x.op,.int .i64 x.target,.bool x.c8,.int .i64 eo,.int .i64 en,.string es,.slice EA em ec,.bool x.place.param,.int .i64 x.place.index,.slice QA qm qc,.slice cN j cy,.slice KA cK kc]:=bg▸(af.ct _ _ _ (by simp)).alloc _;have cq:af W (w.heap.size+3) 100 #[.int .i64 0,.int .i64 0,.slice none 0 0,.slice none 0 0]:=bg▸af.ct _ _ _ (by simp);have ax:=wH aF bG aY aU (cc.1.on aF) (cc.2.1.on aF) (cc.2.2.1.on aF) (cc.2.2.2.on aF) cq;obtain⟨a6,am,aI⟩:=aY.two;clear bg aF bG aY aU cc cq;go_wp2_with(fail);refine(m8 ax.2.2.2.2.2.2.2.1 _ _ _).mono ?_;rintro e aN ⟨rfl,aG⟩;have br:=ad aG;clear a6 am aI;go_upto_region 2 with(fail);generalize hU:World.alloc _ _=U;have ck:Ext aN U:=hU▸Kn.alloc _;have b8:af U aN.heap.size 100 #[.int .i64 f.proc,.int .i64 f.pc,.slice IA i ic,.slice bj l lc]:=hU▸Ko;have ci:=aG.trans ck;obtain⟨d0,ag,aR⟩:=(ax.2.2.2.1.ak ci).two;have cY:=b8.lt;have cm:=ai ci b8
 clear hU ck b8 ci aG;go_upto_region 3 with(fail);clear d0 ag aR;generalize b6:World.alloc _ _=Y;have bA:Ext U Y:=b6▸Kn.alloc _;have ch:af Y U.heap.size 100 #[.int .i64 x.target,.int .i64 0,.slice none 0 0,.slice none 0 0]:=b6▸Ko;have c5:=ch.lt;have bM:=ai bA ch;clear b6 bA ch;go_wp2_with(fail);go_loopw [13] (fun cg wr=>∃(k:Nat) (A:Kr) (c:Nat),cg=.int .i64 k∧k≤j∧Fr (fun b=>b=U.heap.size) Y wr∧af wr U.heap.size 100 #[.int .i64 x.target,.int .i64 0,.slice A k c,.slice none 0 0]∧Gr (fun _=>False) Y.heap.size 3 1 wr A k c (((x.ints.take k).map fun e=>(ev s.globals f.ints e).1).map D.i)∧CR s.globals f.ints x.ints k) (fun cg _=>j - (intOf cg).toNat)
 case atStart=>exact⟨0,none,0,rfl,ab,Kn,bM.2,Gr.nil _ _ _ _ _,fun e he=>by simp at he⟩
 case round=>
  obtain⟨k,A,c,rfl,aj,aF,aL,hG,V⟩:=hrel;have y:Ext U wr:=Fr.low (M:=fun b=>b=U.heap.size) (Fr.trans (Fr.mono bM.1 fun _ h=>h.elim) aF) fun b O=>by rw[O];exact JQ _
  have T:=cm.1.trans y;have aX:=dQ aF aL hG V T y;have gi:=aF.size;by_cases aw:k<j
  ·obtain⟨b,o,ex,cs,rfl,O,a4,bJ,a3,Z⟩:=(ax.2.2.2.2.2.2.1.ints.on (Fr.ext T)).gN cZ aw;exact uX
  ·obtain rfl:k=j:=ab;have aK:cV s.globals f.ints x.ints=(x.ints.map fun e=>(ev s.globals f.ints e).1,0):=ri fun e he=>V e (by rw[JY (aH aP.2.2.2.1)];exact he);have cl:Gr (fun _=>False) Y.heap.size 3 1 wr A k c ((cV s.globals f.ints x.ints).1.map D.i):=by
    have aJ:=hG;rw[JY (aH aP.2.2.2.1)] at aJ;rw[aK];exact aJ
   obtain⟨au,rfl⟩:∃au,au=wr:=⟨wr,rfl⟩
   have HA:=ai cl aK;obtain⟨d0,ag,aR⟩:=(ax.2.2.2.1.ak T).two;clear aF aL hG V T y aK cl;go_wp2_with(fail);clear d0 ag aR;go_loopw [16] (fun cg wr=>∃(m:Nat) (B:Kr) (az:Nat),cg=.int .i64 m∧m≤cK∧Fr (fun b=>b=U.heap.size) au wr∧af wr U.heap.size 100 #[.int .i64 x.target,.int .i64 0,.slice A k c,.slice B m az]∧Gr (fun _=>False) au.heap.size 3 1 wr B m az (((x.places.take m).map fun p=>(bk u s f p).1).map D.i)∧∀p∈x.places.take m,(bk u s f p).2=0) (fun cg _=>cK - (intOf cg).toNat)
   case atStart=>exact⟨0,none,0,rfl,ab,Kn,aX.2.1,Gr.nil _ _ _ _ _,fun e he=>by simp at he⟩
   case round=>
    obtain⟨m,B,az,rfl,hm,aF,aL,hG,V⟩:=hrel;have y:Ext U wr:=Fr.low (M:=fun b=>b=U.heap.size) (Fr.trans (Fr.mono aX.2.2.2.2.2 fun _ h=>h.elim) aF) fun b O=>by rw[O];exact JQ _
    have T:=cm.1.trans y;have ce:=dQ aF aL hG V T y;have e4:=aF.size;by_cases dc:m<cK
    ·obtain⟨b,o,pl,cB,cp,zc,rfl,O,a4,cj,cr,bm,bF,bu⟩:=(ax.2.2.2.2.2.2.1.places.on (Fr.ext T)).sF dc;have aW:b<wr.heap.size:=O;have bc:=aQ a4 bF bu;obtain⟨a0,ap,ak⟩:=(ax.2.1.ak T).two;obtain⟨a6,am,aI⟩:=(ax.2.2.1.ak T).two;obtain⟨d0,ag,aR⟩:=(ax.2.2.2.1.ak T).two;clear a4 bF bu O aF aL hG V T y;go_upto_region 13 with(fail);refine eE (fun _=>False) [(0,0),(1,0),(2,3),(3,3),(4,0),(5,3),(6,3),(7,0),(8,2),(9,3),(10,3),(11,3),(12,3),(13,3)] ?_
     iterate 2 refine ph ?_
     iterate 2 refine pf ?_
     refine ph ?_
     iterate 2 refine pf ?_
     refine ph ?_;refine aq rfl (fun K hK=>?_);go_simp;have a1:Ext wr wr.drew:=(Fr.refl _ wr).drew;have c7:=ce.2.2.2.2.1.trans a1;refine(lR u s t f pl N wr.drew ⟨GA,gn,gc,MA,mn,mc,PA,pn,pc⟩ ⟨bp,bQ,a7,TA,tn,tc,some ⟨bf,a8,none⟩,hn,hc⟩ cB cp zc ⟨aP.1.hU.ok,aP.1.hS,aP.1.sm,aP.1.ht,⟨Q,aP.1.hp,aP.2.2.1 pl (JT bc.1)⟩,ax.2.2.2.2.1.on c7,ax.2.2.2.2.2.1.on c7,ej.2 ⟨cB,cp,zc,rfl,bc.2.1,bc.2.2.on (Fr.ext a1)⟩⟩).mono ?_;rintro e aO ⟨rfl,bx⟩;rw[jG aP.1.ht];have J:=ad (show Ext wr aO from Fr.aO (Fr.of bx));have aD:=fun bi=>pC (k:=m) ce.2.2.2.1 bc.1 bi;generalize a2:bk u s f pl=R at *;obtain⟨r,z⟩:=R;have bs:=ai aD a2;clear aD a2 bx a1 c7 a0 ap ak a6 am aI d0 ag aR cj cr bm aW;refine eD hK ?_;clear hK K
     iterate 5 refine pf ?_
     refine aA ?_;have bH:=ce.2.1.ak J.o;have bY:=ad bH;obtain⟨e0,a5,aZ⟩:=bH.two;have cu:=J.size;by_cases bi:z=0
     ·have q5:(z != 0)=false:=by simpa using bi
      have al:=ad (ce.2.2.1.ak J.o);have ba:=ad bi;clear bi bH;go_wp2_with(at_builtin;refine bR dm rfl (.tmp 82) (.tmp 84) rfl al.o (d:=D.i r) (cs:=#[.int .i64 r]) (by simp only[D.rep]) rfl rfl rfl ab ab ab ?_;intro cf bz bU b7 g2 ca cJ;have bP:=bY.on g2 (fun hm=>by have:=(al.lt hm).1;omega);clear e0 a5 aZ;obtain⟨e0,a5,aZ⟩:=bP.two;have bW:=aQ b7 g2 bP;clear b7 g2 ca cJ bP);generalize hX:World.setCell _ _ _=X;have bh:af X U.heap.size 100 #[.int .i64 x.target,.int .i64 0,.slice A k c,.slice cf (m+1) bz]:=hX▸bW.2.2.aC 3 _;have bq:Fr (fun b=>b=U.heap.size) bU X:=hX▸(Fr.refl (fun b=>b=U.heap.size) _).setCell (.inl rfl) _;have b0:Fr (fun b=>b=U.heap.size) au X:=Fr.C0 (M:=fun b=>b=U.heap.size∨(Value.slice B m az).ownBlock=some b) (Fr.trans (Fr.trans (Fr.mono (Fr.trans ce.1 (Fr.mono J.o fun _ h=>h.elim)) fun _ h=>.inl h) (Fr.mono bW.2.1 fun _ h=>.inr h)) (Fr.mono bq fun _ h=>.inl h)) fun b O hm=>hm.elim id fun hm=>absurd (al.lt hm).1 ab;have cz:=bW.1.cO bq fun b O _=>⟨fun h=>h,by rw[O];omega⟩
      have P:=aQ bh b0 cz;clear hX bh bq b0 cz e0 a5 aZ;go_roundw
      case rel=>
       refine⟨m+1,cf,bz,by go_num,ab,P.2.1,P.1,?_,fun e he=>?_⟩
       ·rw[a9 bc.1,JX,JX];exact y1
       ·rw[a9 bc.1] at he;rcases JZ.1 he with he|he
        ·exact ce.2.2.2.1 e he
        ·rw[Kh.1 he,bs.2];exact ba.o
      case measure=>exact aB
     ·have q5:(z != 0)=true:=by simpa using bi
      have bX:=ad (bs.1 bi);have ba:=ad bi;have ar:=ce.2.2.2.2.1.trans J.o;have cq:=ax.2.2.2.2.2.2.2.2.ak ar;have cA:=ai cq (ax.1.trans ar);obtain⟨bv,bd,be⟩:=cq.two;clear bi bH ar cq;go_wp2_with(fail);generalize hX:World.setCell _ _ _=X;obtain⟨bh,bo,b0⟩:=cb (w:=w) [.int .i64 x.target,.int .i64 0,.slice A k c,.slice B m az] (by rfl) cA.1 cA.2 ab hX;have P:=ad bo;clear hX bo b0 bv bd be e0 a5 aZ;obtain⟨bv,bd,be⟩:=bh.two;refine Km (v:=.tuple #[.agg #[.int .i64 x.target,.int .i64 0,.slice A k c,.slice B m az],.int .i64 z]) (by simp[results,Tryz.results50,go_sem,bv]) rfl ?_;refine⟨_,_,_,_,_,_,_,_,z,rfl,P.o,fun h=>absurd ?_ h,fun _ _=>by rw[bX.o],fun _ h=>absurd h ?_⟩
      ·rw[HA.2]
      ·rw[bX.o];exact ba.o
    ·obtain rfl:m=cK:=ab;have bn:b3 u s f x.places=(x.places.map fun p=>(bk u s f p).1,0):=pD fun e he=>V e (by rw[JY (aH aP.2.2.2.2.1)];exact he);have bT:Sl wr (fun b=>au.heap.size≤b∧b<wr.heap.size) B m ((b3 u s f x.places).1.map D.i):=by
      have aJ:=hG;rw[JY (aH aP.2.2.2.2.1)] at aJ;rw[bn];exact aJ.sl (fun b _ h=>h.elim) fun b aw O=>⟨O,aw⟩
     have bS:=hG.cap.1;have cl:=HA.1.cO aF fun b O _=>⟨fun h=>h,by rw[O];omega⟩
     obtain⟨b1,rfl⟩:∃b1,b1=wr:=⟨wr,rfl⟩
     have bK:=bw bT bS bn cl;obtain⟨eq,c4,cS,f2,b9⟩:=aP.2.2.2.2.2;have cd:=(List.getElem?_eq_some_iff.1 c4).1;have bb:=ax.2.2.2.2.1.at_.p.1;rw[JU] at bb;simp only at bb;obtain⟨pb,gL,c8,bI,bZ,bO,e,eI,bV,cj,cr,bm,aa,cI,_,_⟩:=ax.2.2.2.2.1.at_.proc (k:=x.target.toNat) (by show x.target.toNat<pn;omega);simp only at e;subst e;rw[c4] at bV;injection bV with bV;subst bV;have cH:=b9.ints;obtain⟨L,bt⟩:=JV (a:=eq.locals) ab;rw[bt] at aa;have eD:k≤L:=by have:=aP.2.2.2.1;omega
     have cW:L≤200:=ab;have cn:x.target<(pn:Int):=ab;have aM:fT u x.target=L:=by unfold fT;rw[c4];simp[bt]
     have b4:=aQ aM eI aa;obtain⟨d0,ag,aR⟩:=(ax.2.2.2.1.ak T).two;clear aF aL hG V T y bn bT cl c4 cS f2 b9 cd bb eI cj cr bm aa cI cH bt aM;go_wp2_with(fail);clear d0 ag aR;go_loopw [97] (fun _ wr=>∃(bE:Nat) (A2:Kr) (c2:Nat),k≤bE∧bE≤L∧Fr (fun b=>b=U.heap.size∨(Y.heap.size≤b∧b<au.heap.size)) b1 wr∧af wr U.heap.size 100 #[.int .i64 x.target,.int .i64 0,.slice A2 bE c2,.slice B m az]∧Gr (fun _=>False) Y.heap.size 3 1 wr A2 bE c2 (((cV s.globals f.ints x.ints).1++List.replicate (bE - k) 0).map D.i)∧∀b,(Value.slice A2 bE c2).ownBlock=some b→(b<au.heap.size∨b1.heap.size≤b)) (fun _ wr=>L - xc U.heap.size wr)
     case atStart=>exact⟨k,A,c,ab,eD,Kn,ce.2.1,by rw[Nat.sub_self,List.replicate_zero,Kf];exact bK.2.2.2,fun b O=>.inl (HA.1.lt O).2⟩
     case round=>
      obtain⟨bE,A2,c2,cx,bN,aF,aL,hG,S⟩:=hrel;have cw:=bM.1.size;have y:Ext U wr:=Fr.low (M:=fun b=>b=U.heap.size∨(Y.heap.size≤b∧b<au.heap.size)) (Fr.trans (Fr.mono ce.2.2.2.2.2 fun _ h=>h.elim) aF) fun b O=>by rcases O with O|O<;>omega
      have T:=cm.1.trans y;have ao:=dQ aF aL hG S T y;have bu:=aF.size;obtain⟨a0,ap,ak⟩:=(ax.2.1.ak T).two;obtain⟨d0,ag,aR⟩:=(ax.2.2.2.1.ak T).two;obtain⟨e0,a5,aZ⟩:=aL.two;have aa:=(T.cell b4.2.1 fun h=>h).trans b4.2.2;have bb:pb<wr.heap.size:=JR b4.2.1 T.size;clear aF aL hG S T y;by_cases bC:bE<L
      ·go_upto_region 17 with(fail);refine eE (fun _=>False) [(0,3),(1,0),(2,3),(3,3),(4,0),(5,3),(6,0),(7,3),(8,3),(9,0),(10,3)] ?_;refine pf ?_;refine ph ?_
       iterate 2 refine pf ?_
       refine ph ?_;refine pf ?_;refine ph ?_
       iterate 2 refine pf ?_
       refine ph ?_;refine pf ?_;refine aA ?_;generalize bL:World.drew wr=aO;have aS:Ext wr aO:=bL▸(Fr.refl _ wr).drew;clear bL a0 ap ak d0 ag aR aa bb e0 a5 aZ;have J:=ad aS;have bH:=ao.2.1.ak aS;have bY:=ad bH;have al:=ad (ao.2.2.1.ak aS);have cu:=aS.size;obtain⟨e0,a5,aZ⟩:=bH.two;clear aS bH;have dg:(bE:Int)<(L:Int):=ab;have q7:decide ((bE:Int)<(L:Int))=true:=decide_eq_true dg;go_wp2_with(at_builtin;refine bR dm rfl (.tmp 99) (.tmp 100) rfl al.o (d:=D.i 0) (cs:=#[.int .i64 0]) (by simp only[D.rep]) rfl rfl rfl ab ab ab ?_;intro cf bz bU b7 g2 ca cJ;have bP:=bY.on g2 (fun hm=>by have:=(al.lt hm).1;omega);clear e0 a5 aZ;obtain⟨e0,a5,aZ⟩:=bP.two;have bW:=bw b7 g2 bP ca;clear b7 g2 ca cJ bP);generalize hX:World.setCell _ _ _=X;have bh:af X U.heap.size 100 #[.int .i64 x.target,.int .i64 0,.slice cf (bE+1) bz,.slice B m az]:=hX▸bW.2.2.1.aC 2 _;have bq:Fr (fun b=>b=U.heap.size) bU X:=hX▸(Fr.refl (fun b=>b=U.heap.size) _).setCell (.inl rfl) _;have b0:Fr (fun b=>b=U.heap.size∨(Y.heap.size≤b∧b<au.heap.size)) b1 X:=Fr.C0 (M:=fun b=>(b=U.heap.size∨(Y.heap.size≤b∧b<au.heap.size))∨(Value.slice A2 bE c2).ownBlock=some b) (Fr.trans (Fr.trans (Fr.mono (Fr.trans ao.1 (Fr.mono J.o fun _ h=>h.elim)) fun _ h=>.inl h) (Fr.mono bW.2.1 fun _ h=>.inr h)) (Fr.mono bq fun _ h=>.inl (.inl h))) fun b O hm=>hm.elim id fun hm=>.inr ⟨(al.lt hm).1,by rcases ao.2.2.2.1 b hm with h|h<;>omega⟩;have cz:=bW.1.cO bq fun b O _=>⟨fun h=>h,by rw[O];omega⟩
       have cF:∀b,(Value.slice cf (bE+1) bz).ownBlock=some b→(b<au.heap.size∨b1.heap.size≤b):=fun b O=>(bW.2.2.2 b O).elim (fun h=>ao.2.2.2.1 b h) fun h=>.inr ab;have ct:L - xc U.heap.size X<L - xc U.heap.size wr:=by
        unfold xc;rw[bh.cell 2,ao.2.1.cell 2];show L - (bE+1)<L - bE
        omega
       have P:=dA bh b0 cz cF ct;clear hX bh bq b0 cz cF ct e0 a5 aZ;go_roundw
       case rel=>
        refine⟨bE+1,cf,bz,ab,ab,P.2.1,P.1,?_,P.2.2.2.1⟩;rw[show bE+1 - k=(bE - k)+1 by omega,List.replicate_succ',←List.append_assoc,JX];exact P.2.2.1
       case measure=>exact P.2.2.2.2
      ·have de:bE=L:=ab;have q7:decide ((bE:Int)<(L:Int))=false:=decide_eq_false ab;have cP:=ad de;clear de;go_upto_region 17 with(fail);refine eE (fun _=>False) [(0,3),(1,0),(2,3),(3,3),(4,0),(5,3),(6,0),(7,3),(8,3),(9,0),(10,3)] ?_;refine pf ?_;refine ph ?_
       iterate 2 refine pf ?_
       refine ph ?_;refine pf ?_;refine ph ?_
       iterate 2 refine pf ?_
       refine ph ?_;refine pf ?_;refine aA ?_;generalize bL:World.drew wr=aO;have aS:Ext wr aO:=bL▸(Fr.refl _ wr).drew;clear bL a0 ap ak d0 ag aR aa bb e0 a5 aZ;have cu:=aS.size;have bH:=ao.2.1.ak aS;have bB:Fr (fun b=>b=U.heap.size∨(Y.heap.size≤b∧b<au.heap.size)) b1 aO:=Fr.trans ao.1 (Fr.mono aS fun _ h=>h.elim);have ar:=ao.2.2.2.2.1.trans aS;have cq:=ax.2.2.2.2.2.2.2.2.ak ar;have cA:=bw cq (ax.1.trans ar) (ao.2.2.1.ak aS) bB;obtain⟨e0,a5,aZ⟩:=bH.two;obtain⟨bv,bd,be⟩:=cq.two;clear aS bH ar cq bB;go_wp2_with(fail);generalize hX:World.setCell _ _ _=X;obtain⟨bh,bo,b0⟩:=cb (w:=w) [.int .i64 x.target,.int .i64 0,.slice A2 bE c2,.slice B m az] (by rfl) cA.1 cA.2.1 ab hX;have P:=ai bo b0;clear hX bo b0 bv bd be e0 a5 aZ;obtain⟨bv,bd,be⟩:=bh.two;refine Km (v:=.tuple #[.agg #[.int .i64 x.target,.int .i64 0,.slice A2 bE c2,.slice B m az],.int .i64 0]) (by simp[results,Tryz.results50,go_sem,bv]) rfl ?_;refine⟨_,_,_,_,_,_,_,_,0,rfl,P.1,fun h=>absurd ?_ h,fun _ h=>absurd ?_ h,fun _ _=>⟨rfl,?_⟩⟩
       ·rw[HA.2]
       ·rw[bK.2.2.1]
       ·have cM:=ax.2.2.2.2.2.2.2.2.lt;have db:=cm.1.size;have da:=bM.1.size;have dd:=aX.1.size;have df:=ce.1.size;have bl:=cA.2.2.2.size;have c9:=P.2.size;have gD:=cA.2.2.1.cO P.2 fun b O _=>⟨fun h=>h,by rw[O];omega⟩
        refine gO.2 ⟨A2,bE,c2,B,m,az,rfl,cA.2.2.1.cap.1,bK.2.1,?_,?_⟩
        ·have hlen:(cV s.globals f.ints x.ints).1.length=k:=by rw[HA.2];simp[aP.2.2.2.1]
         show Sl X _ A2 bE (((cV s.globals f.ints x.ints).1++List.replicate (fT u x.target - (cV s.globals f.ints x.ints).1.length) 0).map D.i)
         rw[b4.1,hlen,←cP.o];exact gD.sl (fun b _ h=>h.elim) fun b aw O=>⟨ab,aw⟩
        ·show Sl X _ B m ((b3 u s f x.places).1.map D.i)
         refine(bK.1.aj (ac:=X) fun b O=>?_).mono fun b O=>⟨ab,ab⟩
         rw[P.2.block b ab ab,cA.2.2.2.block b O.2 ab]
 ):p:=h
end BZ
open BZ in
theorem tQ(u:av)(s:ah)(t:Int)(f:an)(Q:c6)(x:ay)(N:Nat)(w:World)(p:UV)(q:SV)(v:IV)(h:k6 u s t f Q x N)(aE:x.op=2∨x.op=3)(hu:p.Ok w u)(hs:q.Ok w s)(bD:v.Ok w x) :
  Calls prog 50 #[.agg (p.val u),.agg (q.val s),.int .i64 t,.agg (v.val x)] w (F0 w u x (cV s.globals f.ints x.ints) (b3 u s f x.places)):=by
 exact fL
namespace B0
theorem uO(h:p:=by
 rw[bX.o];exact eS (B:=V.heap.size) bM.1 ba.2 (fun b O=>⟨fun hl=>by have:=k.o b hl;omega,ab⟩) (fun b O=>by have:=k.o b O;omega) ab ba.1 (by rw[Df ce.2.1])
 ):p:=h
theorem fK(h:p:=by
 generalize aJ:World.setCell _ _ _=bT;obtain⟨b5,bE⟩:=m.1.push dv.1 (fun b hm=>⟨(dv.2 b hm).1,(dv.2 b hm).2.1,(dv.2 b hm).2.2.1,(dv.2 b hm).2.2.2.1⟩) bS.1 bS.2.1 bS.2.2 aJ;have cr:Fr (fun b=>b=lb∨b=O) A bT:=by
  rw[←aJ];exact Fr.setCell (Fr.mono bS.2.1 fun _ h=>.inl h) (.inl (.inr rfl)) _
 have dt:=(aP.1.lo O (by simp)).1;have o:Ext V bT:=Fr.low (M:=fun b=>b=lb∨b=O) (Fr.trans (Fr.mono m.2.1 fun _ h=>h.elim) cr) fun b O=>by rcases O with O|O<;>omega
 have bM:=aQ b5 bE (b1.trans o);have bc:=o.size;clear aJ b5 bE cr o bq a9 cH dy;exact uN
 ):p:=h
theorem rT(h:p:=by
 first
  | have de:(x.op == 8)=true:=by simpa using h
  | have de:(x.op == 8)=false:=by simp;omega
 have cn:=ad h;clear h;go_wp2_with(fail);refine(tQ u s t f Q x N X ⟨GA,gn,gc,MA,mn,mc,PA,pn,pc⟩ ⟨bp,bQ,a7,TA,tn,tc,HA,hn,hc⟩ ⟨eo,en,es,EA,em,ec,QA,qm,qc,cN,j,cy,KA,cK,kc⟩ g.o c5.o (ax.2.2.2.2.1.on aP.2.2) (ax.2.2.2.2.2.on aP.2.2) (dj.on aP.2.1)).mono ?_;rintro e ci ⟨aL,aU,FA,cQ,al,b0,fl,au,z,rfl,a2,cG,bx,bV⟩;have ae:=ad (Jd (u:=u) (s:=s) (t:=t) (f:=f) (x:=x) c5.o);have bA:=ad a2;clear a2;generalize cV s.globals f.ints x.ints=aa at *;generalize b3 u s f x.places=c8 at *;obtain⟨dI,aS⟩:=aa;obtain⟨bi,bz⟩:=c8;clear a0 ap ak a6 am aI d0 ag aR e0 a5 aZ c0 c1 c2 c3 aj flb aw bo i J;by_cases az:aS=0
 case neg=>
  obtain rfl:=cG az;have bX:=ad (ae.H4 az);have DN:(z == 0)=false:=by simpa using az
  have HN:(z != 0)=true:=by simpa using az
  clear az cG bx bV ae;exact Fb
 by_cases T:bz=0
 case neg=>
  obtain rfl:=bx az T;have bX:=ad (ae.H5 az T);have DN:(z == 0)=false:=by simpa using T
  have HN:(z != 0)=true:=by simpa using T
  clear az T cG bx bV ae;exact Fb
 obtain⟨rfl,L⟩:=bV az T;generalize bh:dV u x.target dI bi=Y at *
 ):p:=h
theorem rR(h:p:=by
 rcases c5.o with h|h
 all_goals
  first
   | have q1:(x.op == 1)=true:=by simpa using h
   | have q1:(x.op == 1)=false:=by simp;omega
  first
   | have cB:(x.op == 2)=true:=by simpa using h
   | have cB:(x.op == 2)=false:=by simp;omega
  first
   | have cv:(x.op == 3)=true:=by simpa using h
   | have cv:(x.op == 3)=false:=by simp;omega
  first
   | have cF:(x.op == 4)=true:=by simpa using h
   | have cF:(x.op == 4)=false:=by simp;omega
  first
   | have q5:(x.op == 5)=true:=by simpa using h
   | have q5:(x.op == 5)=false:=by simp;omega
  first
   | have dg:(x.op == 6)=true:=by simpa using h
   | have dg:(x.op == 6)=false:=by simp;omega
  first
   | have q7:(x.op == 7)=true:=by simpa using h
   | have q7:(x.op == 7)=false:=by simp;omega
  first
   | have de:(x.op == 8)=true:=by simpa using h
   | have de:(x.op == 8)=false:=by simp;omega
  have cn:=ad h;clear h;go_wp2_with(fail);refine(tQ u s t f Q x N X ⟨GA,gn,gc,MA,mn,mc,PA,pn,pc⟩ ⟨bp,bQ,a7,TA,tn,tc,HA,hn,hc⟩ ⟨eo,en,es,EA,em,ec,QA,qm,qc,cN,j,cy,KA,cK,kc⟩ g.o c5.o (ax.2.2.2.2.1.on aP.2.2) (ax.2.2.2.2.2.on aP.2.2) (dj.on aP.2.1)).mono ?_;rintro e ci ⟨aL,aU,FA,cQ,al,b0,fl,au,z,rfl,a2,cG,bx,bV⟩;have ae:=ad (Jd (u:=u) (s:=s) (t:=t) (f:=f) (x:=x) c5.o);have bA:=ad a2;clear a2;generalize cV s.globals f.ints x.ints=aa at *;generalize b3 u s f x.places=c8 at *;obtain⟨dI,aS⟩:=aa;obtain⟨bi,bz⟩:=c8;clear a0 ap ak a6 am aI d0 ag aR e0 a5 aZ c0 c1 c2 c3 aj flb aw bo i J;by_cases az:aS=0
  case neg=>
   obtain rfl:=cG az;have bX:=ad (ae.H4 az);have DN:(z == 0)=false:=by simpa using az
   have HN:(z != 0)=true:=by simpa using az
   clear az cG bx bV ae;exact Fb
  by_cases T:bz=0
  case neg=>
   obtain rfl:=bx az T;have bX:=ad (ae.H5 az T);have DN:(z == 0)=false:=by simpa using T
   have HN:(z != 0)=true:=by simpa using T
   clear az T cG bx bV ae;exact Fb
  obtain⟨rfl,L⟩:=bV az T;generalize bh:dV u x.target dI bi=Y at *
 ·
  have bX:=ad (ae.call az T cn.o);rw[bh] at bX;have cT:=ad L;clear az T cG bx bV ae bh L;go_upto_region 24 with(fail);generalize bk:World.alloc _ _=A;have n:Ext ci A:=bk▸Kn.alloc _;have I:af A ci.heap.size 100 #[.int .i64 aL,.int .i64 aU,.slice FA cQ al,.slice b0 fl au]:=bk▸Ko;have r:=bA.trans n;have m:=aQ (RO.ak aP.1 r) (aP.2.1.trans r) (aP.2.2.trans r);have bb:=ai I n;have cR:=n.size;have db:=bA.size;have S:=ad m.2.2;clear bk n r;obtain⟨a6,am,aI⟩:=(ax.2.2.1.ak m.2.2).two;obtain⟨d0,ag,aR⟩:=(cC.ak m.2.1).two;obtain⟨e0,a5,aZ⟩:=m.1.o.two;obtain⟨bo,i,flb,aw,aj,c0,c1,c2,c3,J⟩:=m.1.top;obtain⟨f0,dw,eN⟩:=I.two;clear I;have ar:(hh Y).rep A (fresh X ci) [.int .i64 aL,.int .i64 aU,.slice FA cQ al,.slice b0 fl au]:=D.aN (fun b O=>bb.2.block b O.2 fun h=>h) _ _ cT.o;have H:=aP.1.lo;have bK:∀b,fresh X ci b→V.heap.size≤b∧b<A.heap.size∧b≠O∧b≠lb∧b≠bU.heap.size:=fun b aW=>⟨by have:=aW.1;omega,by have:=aW.2;omega,fun he=>by have:=(H O (by simp)).2;have:=aW.1;omega,fun he=>by have:=(H lb (by simp)).2;have:=aW.1;omega,fun he=>by have:=(H bU.heap.size (by simp)).2;have:=aW.1;omega⟩
  have dv:=ai ar bK;clear ar bK H;have b4:=ch;obtain⟨dn,dq,dr,-,-⟩:=m.1.sep;have aB:=m.1.l;have cl:=ad aB;have dJ:ci.heap.size≠lb:=by have:=(aP.1.lo lb (by simp)).2;omega
  have ds:bU.heap.size≠lb:=dq;have aT:O≠lb:=dr;clear aB;go_upto_region 29 with(fail);refine eE (fun b=>b=lb) [(0,3),(1,0),(2,3),(3,3),(4,0),(5,1),(6,1),(7,3),(8,3),(9,2)] ?_;refine pf ?_;refine pV ?_
  iterate 2 refine pf ?_
  refine pV ?_;refine ru ?_;refine vM (fun ac=>Ext A ac∧af ac A.heap.size 100 #[.int .i64 aL,.int .i64 aU,.slice FA cQ al,.slice b0 fl au]∧ac.heap.size=A.heap.size+1) ⟨by first|exact((Fr.refl _ A).drew).alloc _|exact((Fr.refl _ A).alloc _).drew,by first|exact Ko|exact af.new A.drew _ _,by simp⟩ (fun dD cU=>?_);have cz:=ad cU;clear cU;refine aK rfl (fun K hK=>?_);rw[if_pos (by rfl)];refine E5 FK (.tmp 161) (.tmp 163) rfl (cl.ak cz.1) cz.2.1 rfl rfl rfl (by simp[Value.oneCell']) ab ab ?_;intro A2 b2 cp b7 g2 ca;have cr:Fr (fun b=>b=lb) dD cp:=g2.mono fun b O=>Kh.1 O;refine dW hK (cr) ?_;clear hK K;have aC:Fr (fun b=>b=lb) A cp:=Fr.trans (cz.1.mono fun _ h=>h.elim) cr;have bS:=aQ b7 aC (fun b O=>(ca b O).imp (fun h=>Kh.1 h) (fun h=>(⟨by have:=cz.2.2;omega,h.2⟩:A.heap.size≤b∧b<cp.heap.size)));have bq:=(aC.cell (j:=t.toNat) i aT).trans aj;have a9:∀j,cp.frozen? ⟨O,j,none⟩=false:=fun j=>(aC.frozen i aT).trans (aw j);have cH:=aC.size;clear b7 g2 ca cr aC e0 a5 aZ f0 dw eN d0 ag aR a6 am aI c0 c1 c2 c3 aj flb aw;have dy:O<cp.heap.size:=ab
  iterate 2 refine pf ?_
  exact fJ
 ·
  have bt:=ai (ae.many az T cn.o) (ae.go az T cn.o);rw[bh] at bt;have cT:=ad L;clear az T cG bx bV ae bh L;by_cases R:32≤hn
  ·have dx:decide ((hn:Int)≥32)=true:=by simpa using (by omega:(32:Int)≤(hn:Int))
   have bX:=ad (bt.1 (by rw[←ce.2.2.2.2];exact R));clear R bt;go_upto_region 24 with(fail);generalize bk:World.alloc _ _=A;have n:Ext ci A:=bk▸Kn.alloc _;have I:af A ci.heap.size 100 #[.int .i64 aL,.int .i64 aU,.slice FA cQ al,.slice b0 fl au]:=bk▸Ko;have r:=bA.trans n;have m:=aQ (RO.ak aP.1 r) (aP.2.1.trans r) (aP.2.2.trans r);have bb:=ai I n;have cR:=n.size;have db:=bA.size;have S:=ad m.2.2;clear bk n r;obtain⟨a6,am,aI⟩:=(ax.2.2.1.ak m.2.2).two;obtain⟨d0,ag,aR⟩:=(cC.ak m.2.1).two;obtain⟨e0,a5,aZ⟩:=m.1.o.two;obtain⟨bo,i,flb,aw,aj,c0,c1,c2,c3,J⟩:=m.1.top;obtain⟨f0,dw,eN⟩:=I.two;clear I;have cS:=S.size;go_wp2_with(fail);refine(oB P s ⟨bp,bQ,a7,TA,tn,tc,HA,hn,hc⟩ 4 A (cc.2.2.FQ k.o (ax.1.trans S.o)) (fun b O=>JR (k.o b O) (ax.1.trans S.o).size)).mono ?_;rintro e cx ⟨⟨da,bR,bW,cq,cd,b6,bL,co,bJ⟩,rfl,b9,a4⟩;have f2:=a4.size;have cm:=ad b9;have aX:=ai (ax.2.2.2.1.ak (S.trans a4)) ((ax.1.trans S.o).trans a4);clear b9 a4 f0 dw eN d0 ag aR e0 a5 aZ c0 c1 c2 c3 aj flb aw bo i J a6 am aI;obtain⟨bv,bd,be⟩:=aX.1.two;go_wp2_with(fail);generalize hX:World.setCell _ _ _=Z;obtain⟨bC,bl,bn⟩:=cb (w:=w) [.slice da bR bW,.slice cq cd b6,.slice bL co bJ,.int .i64 4] (by rfl) aX.1 aX.2 ab hX;have ba:=ai bl bn;clear hX bl bn bv bd be;obtain⟨bv,bd,be⟩:=bC.two;refine Km (v:=.tuple #[.agg #[.slice da bR bW,.slice cq cd b6,.slice bL co bJ,.int .i64 4],.bool true]) (by simp[results,Tryz.results25,go_sem,bv]) rfl ?_;rw[bX.o]
   exact eS (B:=A.heap.size) (aV:={s with fault:=4}) cm.o ba.2 (fun b O=>⟨fun hl=>by have:=k.o b hl;omega,ab⟩) (fun b O=>by have:=k.o b O;omega) ab ba.1 rfl
  ·have dx:decide ((hn:Int)≥32)=false:=by simp;omega
   have bX:=ad (bt.2 (by rw[←ce.2.2.2.2];exact R));have dm:=ce.2.2.2.2;clear R bt;go_upto_region 24 with(fail);generalize bk:World.alloc _ _=A;have n:Ext ci A:=bk▸Kn.alloc _;have I:af A ci.heap.size 100 #[.int .i64 aL,.int .i64 aU,.slice FA cQ al,.slice b0 fl au]:=bk▸Ko;have r:=bA.trans n;have m:=aQ (RO.ak aP.1 r) (aP.2.1.trans r) (aP.2.2.trans r);have bb:=ai I n;have cR:=n.size;have db:=bA.size;have S:=ad m.2.2;clear bk n r;obtain⟨a6,am,aI⟩:=(ax.2.2.1.ak m.2.2).two;obtain⟨d0,ag,aR⟩:=(cC.ak m.2.1).two;obtain⟨e0,a5,aZ⟩:=m.1.o.two;obtain⟨bo,i,flb,aw,aj,c0,c1,c2,c3,J⟩:=m.1.top;obtain⟨f0,dw,eN⟩:=I.two;clear I;have ar:(hh Y).rep A (fresh X ci) [.int .i64 aL,.int .i64 aU,.slice FA cQ al,.slice b0 fl au]:=D.aN (fun b O=>bb.2.block b O.2 fun h=>h) _ _ cT.o;have H:=aP.1.lo;have bK:∀b,fresh X ci b→V.heap.size≤b∧b<A.heap.size∧b≠O∧b≠lb∧b≠bU.heap.size:=fun b aW=>⟨by have:=aW.1;omega,by have:=aW.2;omega,fun he=>by have:=(H O (by simp)).2;have:=aW.1;omega,fun he=>by have:=(H lb (by simp)).2;have:=aW.1;omega,fun he=>by have:=(H bU.heap.size (by simp)).2;have:=aW.1;omega⟩
   have dv:=ai ar bK;clear ar bK H;have aH:=m.1.hl;simp only[List.length_set] at aH;have du:a3≤1000:=ab;clear aH dm;obtain⟨dn,dq,dr,-,-⟩:=m.1.sep;have aB:=m.1.h.ak ((Fr.refl _ A).alloc (.cells #[.int .i64 aL,.int .i64 aU,.slice FA cQ al,.slice b0 fl au] 100));have bI:=m.1.o.ak ((Fr.refl _ A).alloc (.cells #[.int .i64 aL,.int .i64 aU,.slice FA cQ al,.slice b0 fl au] 100));have cl:=ai aB bI;clear aB bI;go_upto_region 45 with(at_builtin;refine sY Ci rfl (.tmp 168) (.tmp 172) rfl cl.1 (cs:=#[.slice (some ⟨A.heap.size,0,none⟩) 1 1]) rfl rfl (by simp) rfl (by simp[Value.oneCell']) (by simp only;omega) (by simp only;omega) ?_;intro A2 b2 cp b7 g2 ca;have cJ:=g2.mono (M':=fun b=>b=O) (fun b hm=>Kh.1 hm);have a1:=cl.2.on cJ dn;have bS:=aQ b7 cJ ca;clear b7 g2 ca cJ e0 a5 aZ f0 dw eN d0 ag aR a6 am aI;obtain⟨e0,a5,aZ⟩:=a1.two;clear a1);generalize aJ:World.setCell _ _ _=bT;obtain⟨b5,bE⟩:=m.1.start dv.1 (fun b hm=>⟨(dv.2 b hm).1,(dv.2 b hm).2.1,(dv.2 b hm).2.2.1,(dv.2 b hm).2.2.2.2⟩) rfl bS.1 bS.2.1 (fun b hm=>(bS.2.2 b hm).imp (fun h=>Kh.1 h) id) aJ;have cr:Fr (fun b=>b=O∨b=bU.heap.size) A bT:=by
    rw[←aJ];exact Fr.setCell (Fr.trans ((Fr.refl _ A).alloc _) (Fr.mono bS.2.1 fun _ h=>.inl h)) (.inl (.inr rfl)) _
   have dt:=(aP.1.lo O (by simp)).1;have c7:=(aP.1.lo bU.heap.size (by simp)).1;have o:Ext V bT:=Fr.low (M:=fun b=>b=O∨b=bU.heap.size) (Fr.trans (Fr.mono m.2.1 fun _ h=>h.elim) cr) fun b O=>by rcases O with O|O<;>omega
   have bM:=aQ b5 bE (b1.trans o);have bc:=o.size;clear aJ b5 bE cr o e0 a5 aZ c0 c1 c2 c3 aj flb aw;have aX:=ai (ax.2.2.2.1.ak bM.2.2) (ax.1.trans bM.2.2);have cw:=bM.2.2.size;obtain⟨bv,bd,be⟩:=aX.1.two;obtain⟨e0,a5,aZ⟩:=bM.2.1.two;go_wp2_with(fail);generalize hX:World.setCell _ _ _=Z;obtain⟨bC,bl,bn⟩:=cb (w:=w) [.slice c9 cg bw,.slice cL l aO,.slice A2 (a3+1) b2,.int .i64 s.fault] (by rfl) aX.1 aX.2 ab hX;have ba:=ai bl bn;clear hX bl bn bv bd be e0 a5 aZ;obtain⟨bv,bd,be⟩:=bC.two;refine Km (v:=.tuple #[.agg #[.slice c9 cg bw,.slice cL l aO,.slice A2 (a3+1) b2,.int .i64 s.fault],.bool true]) (by simp[results,Tryz.results25,go_sem,bv]) rfl ?_;exact B9
 ):p:=h
theorem rP(h:p:=by
 exact rQ
 ):p:=h
theorem rX(h:p:=by
 exact rO
 ):p:=h
theorem rV(h:p:=by
 exact rW
 ):p:=h
end B0
open B0 in
theorem qa(u:av)(s:ah)(t:Int)(f:an)(Q:c6)(x:ay)(N:Nat)(P:Nat→Prop)(w:World)(p:UV)(q:SV)(h:k6 u s t f Q x N)(hN:N≤100000)(aE:x.op=2∨x.op=3)(hu:p.Ok w u)(bF:q.Is w P s)(aY:∀b,P b→b<w.heap.size) :
  Calls prog 25 #[.agg (p.val u),.agg (q.val s),.int .i64 t] w (l2 P w (cj u s t f x).1 (cj u s t f x).2):=by
 exact rU
end Go.Proofs.YtbkhhfajcgkpgaaGreat

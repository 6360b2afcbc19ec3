/- Part 43 of the proof. No condition of its own. -/
import Derived.Test.YtbkhhfajcgkpgaaGreatQ41
import Derived.Test.YtbkhhfajcgkpgaaGreatQ42
namespace Go.Proofs.YtbkhhfajcgkpgaaGreat
open Go.RowKit Go.Proofs.Tryz
set_option maxRecDepth 1000000
set_option maxHeartbeats 25600000
set_option linter.unusedVariables false
variable{g:Nat}{p:Prop}{t:TypeId}{w:World}
section
attribute [local go_sem ↓] fW fX
end
theorem E0{P:Nat→Prop}{u:av}{GA MA PA:Kr}{gn gc mn mc pn pc:Nat}{m:Int}(h:(ts u).rep w P [.slice GA gn gc,.slice MA mn mc,.slice PA pn pc,.int .i64 m])(aY:∀b,P b→b<w.heap.size):(⟨GA,gn,gc,MA,mn,mc,PA,pn,pc⟩:UV).Ok w u:=by
 obtain⟨_,_,_,_,_,_,_,_,_,he,ae,aC,aT,hu⟩:=lK (D.aF (bb:=au w) aY _ _ h);injection he with e1 he;injection he with e2 he;injection he with e3 he;injection e1 with z y a3;injection e2 with ar cZ i;injection e3 with c1 c2 c3;subst z y a3 ar cZ i c1 c2 c3;exact⟨hu,ae,aC,aT⟩
def Hl(P:av→ah→Prop)(w:World)(e:Ending)(ac:World):Prop:=∃(u:av) (s:ah) (p:UV) (q:SV),e=.returned (.tuple #[.agg (p.val u),.agg (q.val s)])∧P u s∧lv u s 60 ac p q∧Ext w ac
namespace B5
theorem fK(h:p:=by
 generalize bD:World.setCell _ _ _=Z;obtain⟨bC,bl,bn⟩:=cb (w:=w) [.slice bp bQ a7,.slice TA tn tc,.slice HA hn bJ,.int .i64 S.fault] (by rfl) bM.2.2.2 bM.2.1 ab bD;have ba:=bw bl (Fr.trans (bM.2.2.1.mono fun _ h=>.inl h) (bn.mono fun _ h=>.inr h):Fr (fun b=>b=w.heap.size∨b=w.heap.size+1) aO Z) (bM.1.on bn ab) bC;clear bD bC bl bn aD o r bM;obtain⟨bv,bd,be⟩:=ba.2.2.1.two;obtain⟨G,av,aw⟩:=ba.2.2.2.two;go_wp2_with(fail);refine Km (v:=.tuple #[.agg #[.slice GA gn gc,.slice MA mn mc,.slice PA pn pc,.int .i64 u.main],.agg #[.slice bp bQ a7,.slice TA tn tc,.slice HA hn bJ,.int .i64 S.fault]]) (by simp[results,Tryz.results10,go_sem,bv,G]) rfl ?_;have aj:∀b,W.heap.size≤b→b<aO.heap.size→Z.heap[b]?=aO.heap[b]?:=fun b ae aC=>ba.2.1.block b aC fun h=>by rcases h with h|h<;>omega
 have bu:=ba.2.1.size;have aX:=H1.2.2.1.size;have x:=aP.2.1.size;have s:∀b,W.heap.size≤b→b<aN.heap.size→Z.heap[b]?=aN.heap[b]?:=fun b ae aC=>(aj b ae ab).trans (k.block b aC fun h=>h);refine⟨u,S,⟨GA,gn,gc,MA,mn,mc,PA,pn,pc⟩,⟨bp,bQ,a7,TA,tn,tc,HA,hn,bJ⟩,rfl,trivial,⟨H1.1,aE.2.2,ab,E0 (P:=fresh W aN) (D.aN (fun b O=>s b O.1 O.2) _ _ H1.2.2.2) fun b O=>by have:=O.2;omega,(SV.Is.aj aE.1 fun b O=>aj b (by have:=O.1;have hd:X.drew.heap.size=X.heap.size:=rfl;omega) O.2).ok fun b O=>by have:=O.2;omega⟩,ba.1⟩
 ):p:=h
theorem z5(h:p:=by
 have ax:=dA aF cd b3 (H.1.cO (Fr.ext aF) aF.size) (H.2.cO (Fr.ext aF) aF.size);clear bg aF cd b3;go_wp2_with(fail);refine(DD A n c l W ax.2.2.2.1 hc).mono ?_;rintro e aN ⟨u,a6,ar,cZ,i,b4,t,hg,cQ,cU,cH,bq,cp,d0,d1,d2,d3,d4,d5,GA,gn,gc,MA,mn,mc,PA,pn,pc,rfl,hU,_,_,_,L,aG⟩;have g:(⟨GA,gn,gc,MA,mn,mc,PA,pn,pc⟩:UV).Ok aN u:=E0 L fun b O=>O.2;have H1:=bw hU g aG L;clear hU g aG L;go_upto_region 2 with(fail);generalize hX:World.alloc _ _=X;have bo:Ext aN X:=hX▸((Kn.alloc _).alloc _).alloc _;have bh:af X (aN.heap.size+1) 26 #[.slice GA gn gc,.slice MA mn mc,.slice PA pn pc,.int .i64 u.main]:=hX▸(af.ct _ _ _ (by simp)).alloc _;have co:=bh.lt;have aP:=bw (H1.2.1.on bo) (H1.2.2.1.trans bo) bh (ax.2.2.2.2.cO (Fr.ext (H1.2.2.1.trans bo)) (H1.2.2.1.trans bo).size);obtain⟨br,ah,bj⟩:=bh.two;have q:=ad bo;clear hX bo bh;refine eE (fun _=>False) [(0,0),(1,0),(2,3),(3,1),(4,2),(5,2)] ?_
 iterate 2 refine ph ?_
 refine pf ?_;refine aK rfl (fun K hK=>?_);go_simp;refine(vA u ⟨GA,gn,gc,MA,mn,mc,PA,pn,pc⟩ B m d az X.drew H1.1 (aP.1.on (Fr.refl _ X).drew) (aP.2.2.2.cO (Fr.ext (Fr.refl _ X).drew) (JQ _))).mono ?_;rintro e aO ⟨⟨bp,bQ,a7,TA,tn,tc,HA,hn,bJ⟩,rfl,bm,aS⟩;have b9:=EU u H1.1 az;generalize iB u (ew u) (cu az 60)=S at *;have f:Ext X aO:=Fr.aO aS;have aE:=aQ bm f b9;have k:=ad (q.trans f);have bz:=f.size;dsimp only[SV.val];refine dW hK (aS) ?_;clear hK K;clear bm aS f b9 br ah bj;have ag:=(aP.2.1.trans aE.2.1)
 have cd:=ax.2.1.ak ag;have b3:=ax.2.2.1.ak ag;have nH:=ag.size;have bs:=aQ cd b3 ag;obtain⟨cj,j,y⟩:=cd.two;clear cd b3 ag;refine aq rfl (fun K hK=>?_);go_simp;refine eD hK ?_;clear hK K;generalize b6:World.setCell _ _ _=Y;obtain⟨bt,bA,bk⟩:=cb (w:=w) [.slice GA gn gc,.slice MA mn mc,.slice PA pn pc,.int .i64 u.main] (by rfl) bs.1 (ax.1.trans bs.2.2) ab b6;have b3:=bs.2.1.on bk ab;have cw:=bk.size;have bM:=bw bt bA bk b3;obtain⟨aD,o,r⟩:=b3.two;clear b6 bt bA bk b3 cj j y;exact fJ
 ):p:=h
theorem g7(h:p:=by
 exact z4
 ):p:=h
end B5
open B5 in
theorem yq(A B:Kr)(n c m d:Nat)(l az:List Int)(w:World)(h:cC (EF b2) 1 w w.heap.size A n l)(hp:cC (EF b2) 1 w w.heap.size B m az)(hc:n≤c) :
  Calls prog 10 #[.slice A n c,.slice B m d] w (Hl (fun _ _=>True) w):=by
 have H:=ai h hp;clear h hp;go_enter func10,ntmps10;exact g6
def cr:ByteArray:=⟨#[109,117,116,101,120,32,97,59,32,109,117,116,101,120,32,98,59,32,102,117,110,99,32,109,97,105,110,40,41,32,123,32,103,111,32,102,40,41,59,32,108,111,99,107,32,97,59,32,108,111,99,107,32,98,59,32,125,32,102,117,110,99,32,102,40,41,32,123,32,108,111,99,107,32,98,59,32,108,111,99,107,32,97,59,32,125]⟩
def Hr:ByteArray:=strOf [97]
def Hs:ByteArray:=strOf [98]
def IL:ByteArray:=strOf [102]
def IN:az:=⟨strOf [109,97,105,110],[],.call true IL [] (.lock false ⟨Hr,none⟩ (.lock false ⟨Hs,none⟩ .nil))⟩
def IM:az:=⟨IL,[],.lock false ⟨Hs,none⟩ (.lock false ⟨Hr,none⟩ .nil)⟩
def sZ:bB:=⟨[],[⟨Hr,false,0⟩,⟨Hs,false,0⟩],[IN,IM]⟩
theorem vf:(dX cr.data.toList).1.length≤4001∧0<(dX cr.data.toList).1.length∧(dX cr.data.toList).2.2=0:=by decide +kernel
theorem D2:ku (dX cr.data.toList).1 10 0=some (sZ.ae,sZ.funcs):=by rfl
theorem FM:oE sZ:=by
 refine⟨?_,?_,by decide,by decide,by decide,?_,?_,?_,⟨0,_,rfl,rfl,rfl⟩,by decide⟩
 ·decide
 ·decide
 ·decide
 ·decide
 ·intro f aD;have aU:∀(f:az) (V:Ks) (n:ByteArray),n=Hr∨n=Hs→rH (gj sZ f) V ⟨n,none⟩:=fun f V n hn=>by
   rcases hn with rfl|rfl
   ·exact .inl ⟨⟨Hr,false,0⟩,by simp[gj,sZ],rfl,fun h=>absurd h (by decide),fun _=>rfl⟩
   ·exact .inl ⟨⟨Hs,false,0⟩,by simp[gj,sZ],rfl,fun h=>absurd h (by decide),fun _=>rfl⟩
  simp only[sZ,J6,List.not_mem_nil,or_false] at aD;rcases aD with rfl|rfl
  ·refine⟨by decide,by decide,by decide,?_⟩;exact⟨⟨[],by simp[gj,sZ,IN,IM,sigs],trivial⟩,aU _ _ _ (.inl rfl),aU _ _ _ (.inr rfl),trivial⟩
  ·refine⟨by decide,by decide,by decide,?_⟩;exact⟨aU _ _ _ (.inr rfl),aU _ _ _ (.inl rfl),trivial⟩
def r8:av:=fU sZ
theorem r9:yy r8:=⟨xe FM,xf sZ⟩
def s0:ah:=iB r8 (ew r8) [0,0,1]
theorem Gn:aS r8 60 s0:=(sL r9.ok [0,0,1] 0 (ew r8) (sx r9.ok)).mono (by decide)
theorem D3:dF r8 s0 0=some (1,1):=by decide +kernel
theorem Ht:xM r8 s0 0=false:=by decide +kernel
theorem Gp:xG (cL r8 s0)=[0,1]:=by decide +kernel
theorem D1:nw (cL r8 s0)=[0,1]:=by decide +kernel
theorem Cr:m6 r8 s0=true:=by decide +kernel
theorem Gq(w:World)(t:TypeId)(sp:Nat×Nat):eU (w.alloc (.cells #[.int .u8 109,.int .u8 117,.int .u8 116,.int .u8 101,.int .u8 120,.int .u8 32,.int .u8 97,.int .u8 59,.int .u8 32,.int .u8 109,.int .u8 117,.int .u8 116,.int .u8 101,.int .u8 120,.int .u8 32,.int .u8 98,.int .u8 59,.int .u8 32,.int .u8 102,.int .u8 117,.int .u8 110,.int .u8 99,.int .u8 32,.int .u8 109,.int .u8 97,.int .u8 105,.int .u8 110,.int .u8 40,.int .u8 41,.int .u8 32,.int .u8 123,.int .u8 32,.int .u8 103,.int .u8 111,.int .u8 32,.int .u8 102,.int .u8 40,.int .u8 41,.int .u8 59,.int .u8 32,.int .u8 108,.int .u8 111,.int .u8 99,.int .u8 107,.int .u8 32,.int .u8 97,.int .u8 59,.int .u8 32,.int .u8 108,.int .u8 111,.int .u8 99,.int .u8 107,.int .u8 32,.int .u8 98,.int .u8 59,.int .u8 32,.int .u8 125,.int .u8 32,.int .u8 102,.int .u8 117,.int .u8 110,.int .u8 99,.int .u8 32,.int .u8 102,.int .u8 40,.int .u8 41,.int .u8 32,.int .u8 123,.int .u8 32,.int .u8 108,.int .u8 111,.int .u8 99,.int .u8 107,.int .u8 32,.int .u8 98,.int .u8 59,.int .u8 32,.int .u8 108,.int .u8 111,.int .u8 99,.int .u8 107,.int .u8 32,.int .u8 97,.int .u8 59,.int .u8 32,.int .u8 125] t sp)) w.heap.size 0 86 cr:=by
 have hc:(#[.int .u8 109,.int .u8 117,.int .u8 116,.int .u8 101,.int .u8 120,.int .u8 32,.int .u8 97,.int .u8 59,.int .u8 32,.int .u8 109,.int .u8 117,.int .u8 116,.int .u8 101,.int .u8 120,.int .u8 32,.int .u8 98,.int .u8 59,.int .u8 32,.int .u8 102,.int .u8 117,.int .u8 110,.int .u8 99,.int .u8 32,.int .u8 109,.int .u8 97,.int .u8 105,.int .u8 110,.int .u8 40,.int .u8 41,.int .u8 32,.int .u8 123,.int .u8 32,.int .u8 103,.int .u8 111,.int .u8 32,.int .u8 102,.int .u8 40,.int .u8 41,.int .u8 59,.int .u8 32,.int .u8 108,.int .u8 111,.int .u8 99,.int .u8 107,.int .u8 32,.int .u8 97,.int .u8 59,.int .u8 32,.int .u8 108,.int .u8 111,.int .u8 99,.int .u8 107,.int .u8 32,.int .u8 98,.int .u8 59,.int .u8 32,.int .u8 125,.int .u8 32,.int .u8 102,.int .u8 117,.int .u8 110,.int .u8 99,.int .u8 32,.int .u8 102,.int .u8 40,.int .u8 41,.int .u8 32,.int .u8 123,.int .u8 32,.int .u8 108,.int .u8 111,.int .u8 99,.int .u8 107,.int .u8 32,.int .u8 98,.int .u8 59,.int .u8 32,.int .u8 108,.int .u8 111,.int .u8 99,.int .u8 107,.int .u8 32,.int .u8 97,.int .u8 59,.int .u8 32,.int .u8 125]:Array Value)=cr.data.map fun c=>.int .u8 (c.toNat:Int):=by kernel_rfl
 refine⟨fun i al=>?_,by simp,by decide,by decide⟩;rw[J8,cell_of_row _ _ i _ t sp (heap_alloc_new w _),hc,Array.getElem?_map,Array.getElem?_eq_getElem (by simpa using al)];rfl
theorem ID(h:af w g t #[.int .i64 0,.int .i64 0,.int .i64 1]):cC (EF b2) 1 w w.heap.size (some ⟨g,0,none⟩) 3 [0,0,1]:=
 Sl.ints (Sl.m0 (l:=[D.i 0,D.i 0,D.i 1]) (cs:=[.int .i64 0,.int .i64 0,.int .i64 1]) h (by simp only[D.aI,D.rep];simp) h.lt rfl)
theorem HO(h:af w g t #[.int .i64 0,.int .i64 1]):Sl w (au w) (some ⟨g,0,none⟩) 2 ([0,1].map D.i):=
 Sl.m0 (l:=[D.i 0,D.i 1]) (cs:=[.int .i64 0,.int .i64 1]) h (by simp only[D.aI,D.rep];simp) h.lt rfl
namespace B6
theorem fK(h:p:=by
 generalize bD:World.setCell _ _ _=Z;obtain⟨bC,bl,bn⟩:=cb (w:=w) [.slice bp bQ a7,.slice TA tn tc,.slice QA ca qc,.int .i64 s0.fault] (by rfl) a2.2.2.2 a2.2.1 ab bD;have aj:∀b,W.heap.size≤b→b<C.heap.size→Z.drew.heap[b]?=C.heap[b]?:=fun b ae aC=>(bn.block b ab ab).trans (a2.2.2.1.block b aC ab);have bu:C.heap.size≤Z.drew.heap.size:=by have ae:=bn.size;have hd:Z.drew.heap.size=Z.heap.size:=rfl;omega
 have ba:=bw bl.drew aj (a2.1.on bn ab).drew bC.drew;clear bD bC bl bn aj aD o r c0 cC bi d0 ag aR;obtain⟨bv,bd,be⟩:=ba.2.2.1.two;obtain⟨G,av,aw⟩:=ba.2.2.2.two;go_wp2_with(fail);refine Km (v:=.tuple #[.agg #[.slice GA gn gc,.slice R a8 bf,.slice PA pn pc,.int .i64 (fU sZ).main],.agg #[.slice bp bQ a7,.slice TA tn tc,.slice QA ca qc,.int .i64 s0.fault]]) (by simp[results,Tryz.results39,go_sem,bv,G]) rfl ?_;have aX:=aP.2.size;have aT:∀b,W.heap.size≤b→b<bU.heap.size→Z.drew.heap[b]?=bU.heap[b]?:=fun b ae aC=>(ba.2.1 b ae ab).trans (bL.2.2.1.block b aC fun h=>h);exact⟨⟨GA,gn,gc,R,a8,bf,PA,pn,pc⟩,⟨bp,bQ,a7,TA,tn,tc,QA,ca,qc⟩,rfl,⟨r9,Gn,ab,E0 (P:=fresh X aO) (D.aN (fun b O=>aT b (aH O.1) (aH O.2)) _ _ ao.1) fun b O=>by have:=O.2;omega,(SV.Is.aj ao.2.1 fun b O=>aT b (aH O.1) O.2).ok fun b O=>by have:=O.2;omega⟩,ba.1⟩
 ):p:=h
theorem z5(h:p:=by
 have ax:=aQ aF cd b3;clear bg aF cd b3;have kc:=Lib.run_convert_bytes_const (P:=prog) W 85 5 #[.int .u8 109,.int .u8 117,.int .u8 116,.int .u8 101,.int .u8 120,.int .u8 32,.int .u8 97,.int .u8 59,.int .u8 32,.int .u8 109,.int .u8 117,.int .u8 116,.int .u8 101,.int .u8 120,.int .u8 32,.int .u8 98,.int .u8 59,.int .u8 32,.int .u8 102,.int .u8 117,.int .u8 110,.int .u8 99,.int .u8 32,.int .u8 109,.int .u8 97,.int .u8 105,.int .u8 110,.int .u8 40,.int .u8 41,.int .u8 32,.int .u8 123,.int .u8 32,.int .u8 103,.int .u8 111,.int .u8 32,.int .u8 102,.int .u8 40,.int .u8 41,.int .u8 59,.int .u8 32,.int .u8 108,.int .u8 111,.int .u8 99,.int .u8 107,.int .u8 32,.int .u8 97,.int .u8 59,.int .u8 32,.int .u8 108,.int .u8 111,.int .u8 99,.int .u8 107,.int .u8 32,.int .u8 98,.int .u8 59,.int .u8 32,.int .u8 125,.int .u8 32,.int .u8 102,.int .u8 117,.int .u8 110,.int .u8 99,.int .u8 32,.int .u8 102,.int .u8 40,.int .u8 41,.int .u8 32,.int .u8 123,.int .u8 32,.int .u8 108,.int .u8 111,.int .u8 99,.int .u8 107,.int .u8 32,.int .u8 98,.int .u8 59,.int .u8 32,.int .u8 108,.int .u8 111,.int .u8 99,.int .u8 107,.int .u8 32,.int .u8 97,.int .u8 59,.int .u8 32,.int .u8 125] 86 86 Tryz.underlying85 Tryz.underlying5;go_wp2_with(fail);clear kc;generalize hV:World.alloc _ _=V;have hT:eU V W.heap.size 0 86 cr:=hV▸Gq W _ _;have t:Ext W V:=hV▸Kn.alloc _;clear hV;have cc:=ai hT t;clear hT t
 refine(yd cr W.heap.size 0 86 V sZ.ae sZ.funcs 10 cc.1 (by decide) vf.1 vf.2.1 vf.2.2 D2 (by decide) (by decide)).mono ?_;rintro e aN ⟨MA,mn,mc,FA,fn,fc,z,rfl,u,b7,F,aG⟩;have H1:=ai u (cc.2.trans aG);have b1:=(cc.2.trans aG).size;clear u aG b7 F;go_upto_region 2 with(fail);generalize hX:World.alloc _ _=X;have bo:Ext aN X:=hX▸Kn.alloc _;have bh:af X aN.heap.size 71 #[.slice none 0 0,.slice MA mn mc,.slice FA fn fc]:=hX▸Ko;have u:g1 X (au X) sZ none 0 MA mn FA fn:=by
  have aj:∀b,fresh V aN b→X.heap[b]?=aN.heap[b]?:=fun b O=>bo.block b O.2 fun h=>h;have hm:∀b,fresh V aN b→au X b:=fun b O=>JR O.2 bo.size;exact⟨Sl.bG _,(H1.1.m.aj aj).mono hm,(H1.1.f.aj aj).mono hm⟩
 have aP:=ai u (H1.2.trans bo);obtain⟨br,ah,bj⟩:=bh.two;clear hX bo bh u;go_wp2_with(fail);refine(CX sZ FM none 0 0 MA mn mc FA fn fc X aP.1).mono ?_;rintro e aO ⟨GA,gn,gc,R,a8,bf,PA,pn,pc,rfl,L,aS⟩;have aE:=ai L (aP.2.trans aS);have bz:=aS.size;clear L aS br ah bj;go_upto_region 3 with(fail);generalize b6:World.alloc _ _=Y;have bA:Ext aO Y:=b6▸Kn.alloc _;have bt:af Y aO.heap.size 26 #[.slice GA gn gc,.slice R a8 bf,.slice PA pn pc,.int .i64 (fU sZ).main]:=b6▸Ko;have cw:=bt.lt;have H:=D.aN (fun b (O:fresh X aO b)=>bA.block b O.2 fun h=>h) _ _ aE.1;have bM:=aQ H (aE.2.trans bA) bt;obtain⟨cj,j,y⟩:=bt.two;clear b6 bA bt H;go_wp2_with(fail);generalize bk:World.alloc _ _=A;have n:Ext Y A:=bk▸Kn.alloc _;have I:af A Y.heap.size 3 #[.int .i64 0,.int .i64 0,.int .i64 1]:=bk▸Ko;have s:=D.aN (fun b (O:fresh X aO b)=>n.block b (aH O.2) fun h=>h) _ _ bM.1;have HA:=bw s (bM.2.1.trans n) (ID I) n;have cR:=n.size;clear bk n I s cj j y;refine(HP r8 [0,0,1] (some ⟨Y.heap.size,0,none⟩) 3 3 A ⟨GA,gn,gc,R,a8,bf,PA,pn,pc⟩ r9 (E0 (P:=fresh X aO) HA.1 fun b O=>by have:=O.2;omega) HA.2.2.1 ab).mono ?_;rintro e bU ⟨⟨bp,bQ,a7,TA,tn,tc,QA,ca,qc⟩,rfl,bm,bB⟩;have gi:=D.aN (fun b (O:fresh X aO b)=>bB.block b (aH O.2) fun h=>h) _ _ HA.1;have ao:=bw gi (show (⟨bp,bQ,a7,TA,tn,tc,QA,ca,qc⟩:SV).Is bU (fun k=>A.heap.size≤k∧k<bU.heap.size) s0 from bm) (HA.2.1.trans bB) (HA.2.2.2.trans bB);have cu:=bB.size;clear bm bB gi;dsimp only[SV.val];go_upto_region 4 with(fail);generalize hC:World.alloc _ _=C
 have f:Ext bU C:=hC▸Kn.alloc _;have dr:af C bU.heap.size 30 #[.slice bp bQ a7,.slice TA tn tc,.slice QA ca qc,.int .i64 s0.fault]:=hC▸Ko;have i:=ao.2.2.1.trans f;have J:=f.size;have nH:=i.size;have bL:=bw (ax.2.1.ak i) (ax.2.2.ak i) f (ax.1.trans i);obtain⟨c0,cC,bi⟩:=(bM.2.2.ak (ao.2.2.2.trans f)).two;obtain⟨d0,ag,aR⟩:=dr.two;obtain⟨cj,j,y⟩:=bL.1.two;clear hC f dr i;have cy:¬aO.heap.size=w.heap.size:=by have:=aP.2.size;omega
 have co:¬bU.heap.size=w.heap.size:=by have:=aP.2.size;omega
 refine eE (fun b=>b=w.heap.size) [(0,0),(1,0),(2,1),(3,2)] ?_
 iterate 2 refine pV ?_
 refine aK rfl (fun K hK=>?_);go_simp;refine dW hK (ko (g:=w.heap.size) [.slice GA gn gc,.slice R a8 bf,.slice PA pn pc,.int .i64 (fU sZ).main] 0 C.drew) ?_;clear hK K;generalize aF:World.setCell _ _ _=E;obtain⟨cK,m,l⟩:=cb (w:=w) [.slice GA gn gc,.slice R a8 bf,.slice PA pn pc,.int .i64 (fU sZ).main] (by rfl) bL.1 bL.2.2.2 ab aF;have b3:=bL.2.1.on l ab;have a2:=bw cK m l b3;have T:=l.size;obtain⟨aD,o,r⟩:=b3.two;clear aF cK m l b3 cj j y;exact fJ
 ):p:=h
theorem g7(h:p:=by
 exact z4
 ):p:=h
end B6
open B6 in
theorem ti(w:World):Calls prog 39 #[] w fun e ac=>∃(p:UV) (q:SV),e=.returned (.tuple #[.agg (p.val r8),.agg (q.val s0)])∧lv r8 s0 60 ac p q∧Ext w ac:=by
 go_enter func39,ntmps39;exact g6
theorem DX(w:World):Calls prog 16 #[] w fun e ac=>e=.returned (.bool true)∧Ext w ac:=by
 go_enter func16,ntmps16;go_wp2_with(fail);refine(ti w).mono ?_;rintro e aN ⟨⟨GA,gn,gc,MA,mn,mc,PA,pn,pc⟩,⟨bp,bQ,a7,TA,tn,tc,HA,hn,hc⟩,rfl,g,aG⟩;have H1:=ai g aG;clear g aG;dsimp only[UV.val,SV.val];go_upto_region 2 with(fail);generalize hX:World.alloc _ _=X;have bo:Ext aN X:=hX▸(Kn.alloc _).alloc _;have bG:af X aN.heap.size 26 #[.slice GA gn gc,.slice MA mn mc,.slice PA pn pc,.int .i64 r8.main]:=hX▸(Ko).alloc _;have aY:af X (aN.heap.size+1) 30 #[.slice bp bQ a7,.slice TA tn tc,.slice HA hn hc,.int .i64 s0.fault]:=hX▸af.ct _ _ _ (by simp);have aP:=bw (H1.1.on bo) (H1.2.trans bo) bG aY;obtain⟨br,ah,bj⟩:=bG.two;obtain⟨cj,j,y⟩:=aY.two;clear hX bo bG aY;go_wp2_with(fail);refine(gX false r8 s0 0 60 X ⟨GA,gn,gc,MA,mn,mc,PA,pn,pc⟩ ⟨bp,bQ,a7,TA,tn,tc,HA,hn,hc⟩ aP.1).mono ?_;rintro e aO ⟨rfl,aS⟩;rw[D3];dsimp only[Option.map,Option.getD,Option.isSome];have aE:=ad aS;clear aS br ah bj cj j y;obtain⟨br,ah,bj⟩:=(aP.2.2.1.ak aE.o).two;obtain⟨cj,j,y⟩:=(aP.2.2.2.ak aE.o).two;go_wp2_with(fail);refine(iI false r8 s0 0 60 aO ⟨GA,gn,gc,MA,mn,mc,PA,pn,pc⟩ ⟨bp,bQ,a7,TA,tn,tc,HA,hn,hc⟩ (aP.1.on aE.o)).mono ?_;rintro e bU ⟨rfl,bB⟩;rw[Ht];have ao:=ad (aE.trans bB);clear bB br ah bj cj j y;obtain⟨br,ah,bj⟩:=(aP.2.2.1.ak ao.o).two;obtain⟨cj,j,y⟩:=(aP.2.2.2.ak ao.o).two;go_wp2_with(fail);refine(Gz r8 s0 60 bU ⟨GA,gn,gc,MA,mn,mc,PA,pn,pc⟩ ⟨bp,bQ,a7,TA,tn,tc,HA,hn,hc⟩ (aP.1.on ao.o)).mono ?_;rintro e ci ⟨A,c,rfl,_,bT,a2⟩;rw[Gp] at bT ⊢;have P:=ai bT (ao.trans a2)
 clear bT a2 br ah bj cj j y;go_wp2_with(fail);generalize b6:World.alloc _ _=Y;have bA:Ext ci Y:=b6▸Kn.alloc _;have bt:af Y ci.heap.size 3 #[.int .i64 0,.int .i64 1]:=b6▸Ko;refine(jT A (some ⟨ci.heap.size,0,none⟩) 2 c 2 2 [0,1] [0,1] Y ((P.1.cO (Fr.ext bA) bA.size).ints fun b O=>O) (HO bt) ab).mono ?_;rintro e cx ⟨rfl,aH⟩;have z:=ad ((P.2.trans bA).trans (Fr.of aH));clear b6 bA bt aH;obtain⟨br,ah,bj⟩:=(aP.2.2.1.ak z.o).two;obtain⟨cj,j,y⟩:=(aP.2.2.2.ak z.o).two;rw[show decide (([0,1]:List Int)=[0,1])=true from rfl];go_wp2_with(fail);refine(HF r8 s0 60 cx ⟨GA,gn,gc,MA,mn,mc,PA,pn,pc⟩ ⟨bp,bQ,a7,TA,tn,tc,HA,hn,hc⟩ (aP.1.on z.o)).mono ?_;rintro e cp ⟨A2,c2,rfl,_,bT,f⟩;rw[D1] at bT ⊢;have J:=ai bT (z.trans f);clear bT f br ah bj cj j y;go_wp2_with(fail);generalize b6:World.alloc _ _=f1;have bA:Ext cp f1:=b6▸Kn.alloc _;have bt:af f1 cp.heap.size 3 #[.int .i64 0,.int .i64 1]:=b6▸Ko;refine(jT A2 (some ⟨cp.heap.size,0,none⟩) 2 c2 2 2 [0,1] [0,1] f1 ((J.1.cO (Fr.ext bA) bA.size).ints fun b O=>O) (HO bt) ab).mono ?_;rintro e fn ⟨rfl,i⟩;have q:=ad ((J.2.trans bA).trans (Fr.of i));clear b6 bA bt i;obtain⟨br,ah,bj⟩:=(aP.2.2.1.ak q.o).two;obtain⟨cj,j,y⟩:=(aP.2.2.2.ak q.o).two;rw[show decide (([0,1]:List Int)=[0,1])=true from rfl];go_wp2_with(fail);refine(GC r8 s0 60 fn ⟨GA,gn,gc,MA,mn,mc,PA,pn,pc⟩ ⟨bp,bQ,a7,TA,tn,tc,HA,hn,hc⟩ (aP.1.on q.o)).mono ?_;rintro e gN ⟨rfl,cc⟩;rw[Cr];have cA:=ad ((aP.2.1.trans q.o).trans cc);clear cc br ah bj cj j y;go_wp2_with(fail);go_ret
 exact⟨rfl,cA.o⟩
end Go.Proofs.YtbkhhfajcgkpgaaGreat

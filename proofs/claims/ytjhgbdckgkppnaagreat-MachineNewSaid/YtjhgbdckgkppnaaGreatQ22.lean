/- Part 22 of the proof (McS McT), without conditions of its own. -/
import Derived.Test.YtjhgbdckgkppnaaGreatQ21
namespace Go.Proofs.YtjhgbdckgkppnaaGreat
open Go.RowKit Go.Proofs.Tryz
set_option maxRecDepth 1000000
set_option maxHeartbeats 25600000
set_option linter.unusedVariables false
variable{t:Int}{fs:List aq}{B:Nat}{p:Prop}{w:World}{x:aC}{u:aF}{s:an}{f:aq}
theorem dg.pop{G:Nat}{q:SV}{xs:List Value}{ak ar bS bX:List Nat}(h:dg B w s G q xs ak ar bS bX){k:Nat}(bu:s.threads[k]?=some (fs++[f])):
  ∃O bY fc,q.HA=some ⟨O,0,none⟩∧k<q.hn∧O<w.heap.size∧O≠G∧B≤O∧(∀j,w.frozen? ⟨O,j,none⟩=false)∧w.cell? ⟨O,k,none⟩=some (.slice (some ⟨bY,0,none⟩) (fs.length+1) fc)∧fs.length+1≤fc∧
   ∀X,w.setCell ⟨O,k,none⟩ (.slice (some ⟨bY,0,none⟩) fs.length fc)=X→∃e d,dg B X {s with threads:=s.threads.set k fs} G q e ak ar bS d:=by
 obtain⟨O,bY,fc,IA,i,ic,bj,l,lc,T,aY,R,b2,bz,u,aJ,hl,hc,bc,c0,c1,c2,c3,a5,a,cX,hints,H⟩:=h.st.top bu;have a8:O∈ak++(ar++(bS++bX)):=by simp[bz]
 refine⟨O,bY,fc,T,aY,R,fun he=>h.ne (he▸a8),(h.lo _ a8).1,a5,hc,bc,fun X ah=>?_⟩;obtain⟨e,d,b8,C⟩:=H;subst ah;have t:∀b,b∈ak++(ar++(bS++d))→b∈ak++(ar++(bS++bX)):=fun b O=>by
  simp only[Gk] at O ⊢;rcases O with O|O|O|O
  ·exact .inl O
  ·exact .inr (.inl O)
  ·exact .inr (.inr (.inl O))
  ·exact .inr (.inr (.inr (C b O)))
 exact⟨e,d,b8,h.o.FD (fun he=>h.ne (he▸a8)) _,fun aM=>h.ne (t _ aM),fun b O=>⟨(h.lo b (t b O)).1,by simpa [World.setCell] using (h.lo b (t b O)).2⟩,h.go⟩
theorem dg.drew{B:Nat}{w:World}{s:an}{G:Nat}{q:SV}{xs:List Value}{ak ar bS bX:List Nat}(h:dg B w s G q xs ak ar bS bX):dg B w.drew s G q xs ak ar bS bX:=h.al GN.drew
theorem Cj(h:s.threads[t.toNat]?=some (fs++[f])):rD s t={s with threads:=s.threads.set t.toNat fs}:=by
 unfold rD;rw[j6 h,jv]
theorem tE(h:ei s t=some f)(hx:dG u s t=some x):ew u s t=cp u s t f x:=by
 unfold ew;rw[h,hx]
theorem tD(h:ei s t=none):ew u s t=(s,false):=by
 unfold ew;rw[h]
theorem Cx(h:x.op=7):cp u s t f x=(bk s t {f with pc:=x.target},true):=by
 unfold cp;rw[if_neg ad,if_neg ad,if_neg ad,if_pos h]
theorem Cy(h:x.op=8):cp u s t f x=(rD s t,true):=by
 unfold cp;rw[if_neg ad,if_neg ad,if_neg ad,if_neg ad]
namespace zq
theorem h6(h:p:=by
 refine aD ?_;generalize ah:World.setCell _ _ _=Y;obtain⟨br,aX,l⟩:=aS.o Y ah;have aV:Fr (fun b=>b=O) U Y:=ah▸(Fr.refl (fun b=>b=O) U).setCell (.inl rfl) _;have cW:Ext W Y:=Fr.low (M:=fun b=>b=O) (Fr.trans (Fr.mono cn.2.1 fun _ h=>h.elim) aV) fun b O=>ad;have G:=ae l;clear ah l aV e0 bl a5 a6 aL aP aW dh;have aZ:=ai (aj.2.2.2.1.al cW) (aj.1.trans cW);obtain⟨bx,bd,be⟩:=aZ.1.two;obtain⟨e0,bl,a5⟩:=G.o.o.two;clear cW;go_wp2_with (fail);generalize ah:World.setCell _ _ _=Z;obtain⟨bm,a9,bn⟩:=cx (w:=w) [.slice n bG aN,.slice y tn L,.slice (some ⟨O,0,none⟩) hn a2,.int .i64 s.fault] (by rfl) aZ.1 aZ.2 ad ah;have bf:=ai a9 bn;clear ah a9 bn bx bd be e0 bl a5;obtain⟨bx,bd,be⟩:=bm.two;refine GM (v:=.tuple #[.agg #[.slice n bG aN,.slice y tn L,.slice (some ⟨O,0,none⟩) hn a2,.int .i64 s.fault],.bool true]) (by simp[results,Tryz.results16,go_sem,bx]) rfl ?_;rw[bW.o];show dE lp w (rD s t) true _ _
 exact f2 (Q:=rD s t) (q:=⟨n,bG,aN,y,tn,L,(some ⟨O,0,none⟩),hn,a2⟩) G.o bf.2.drew (fun b O=>ad) ad bf.1.drew (by rw[Cj bT.2.1])
 ):p:=h
theorem di(h:p:=by
 generalize ah:World.setCell _ _ _=Y;have l:dg V.heap.size Y {s with threads:=s.threads.set t.toNat (fs++[{f with pc:=x.target}])} bJ.heap.size ⟨n,bG,aN,y,tn,L,a4,hn,a2⟩ xs ak ar bS bX:=ah▸aT.pc x.target;have aV:Fr (fun b=>b=cE) cy Y:=ah▸(Fr.refl (fun b=>b=cE) cy).setCell (.inl rfl) _;have dp:=aT.ge;have cW:Ext W Y:=Fr.low (M:=fun b=>b=cE) (Fr.trans (Fr.mono cu.o fun _ h=>h.elim) aV) fun b O=>ad;have G:=ae l;clear ah l aV b4 g2 cD aT;have aZ:=ai (aj.2.2.2.1.al cW) (aj.1.trans cW);obtain⟨bx,bd,be⟩:=aZ.1.two;obtain⟨e0,bl,a5⟩:=G.o.o.two;clear cW;go_wp2_with (fail);generalize ah:World.setCell _ _ _=Z;obtain⟨bm,a9,bn⟩:=cx (w:=w) [.slice n bG aN,.slice y tn L,.slice a4 hn a2,.int .i64 s.fault] (by rfl) aZ.1 aZ.2 ad ah;have bf:=ai a9 bn;clear ah a9 bn bx bd be e0 bl a5;obtain⟨bx,bd,be⟩:=bm.two;refine GM (v:=.tuple #[.agg #[.slice n bG aN,.slice y tn L,.slice a4 hn a2,.int .i64 s.fault],.bool true]) (by simp[results,Tryz.results16,go_sem,bx]) rfl ?_;rw[bW.o];show dE lp w (bk s t {f with pc:=x.target}) true _ _
 exact f2 (Q:=bk s t {f with pc:=x.target}) (q:=⟨n,bG,aN,y,tn,L,a4,hn,a2⟩) G.o bf.2 (fun b O=>ad) ad bf.1 (by rw[fa bT.2.1])
 ):p:=h
theorem iT(h:p:=by
 have bL:ag W w.heap.size 30 #[.slice GA gn gc,.slice MA mn mc,.slice PA pn pc,.int .i64 u.main]:=bg▸((GO).alloc _).alloc _;have b1:ag W (w.heap.size+1) 40 #[.slice bI bG bq,.slice TA tn tc,.slice bF hn hc,.int .i64 s.fault]:=bg▸(ag.bR _ _ _ (by simp)).alloc _;have b6:ag W (w.heap.size+2) 40 #[.slice none 0 0,.slice none 0 0,.slice none 0 0,.int .i64 0]:=bg▸ag.bR _ _ _ (by simp);have aj:=dz av bL b1 b6 (cg.1.on av) (cg.2.on av);have cH:=av.size;have dx:=b6.lt;obtain⟨a0,al,af⟩:=bL.two;obtain⟨a7,am,aE⟩:=b1.two;clear bg av bL b1 b6 cg
 cases htop:ei s t with
 | none=>
  have bW:=ae (tD (u:=u) htop);have X:=ae htop;clear htop;go_wp2_with (fail);refine(rl u s t W ⟨GA,gn,gc,MA,mn,mc,PA,pn,pc⟩ ⟨bI,bG,bq,TA,tn,tc,bF,hn,hc⟩ aj.2.2.2.2.2 X.o).mono ?_;rintro e aH ⟨rfl,aI⟩;have bp:=ae aI;clear a0 al af a7 am aE;go_upto_region 2 with(fail);generalize hV:World.alloc _ _=V;have S:Ext W V:=hV▸aI.alloc _;have cv:=S.size;obtain⟨a7,am,aE⟩:=(aj.2.2.1.al S).two;have bs:=ae S;clear hV S aI;go_wp2_with (fail);refine(qj s ⟨bI,bG,bq,TA,tn,tc,bF,hn,hc⟩ V (aj.2.2.2.2.2.on bs.o) HA.2.2).mono ?_;rintro e bJ ⟨⟨n,bE,aN,y,m,L,a4,o,a2⟩,rfl,ao,ay⟩;have ch:=ao.mono (c8:=fun k=>lp k∨(V.heap.size≤k∧k<bJ.heap.size)) fun b O=>.inr O;clear ao a7 am aE;have aZ:=ai ((aj.2.2.2.1.al bs.o).al ay) ((aj.1.trans bs.o).trans ay);have cI:=ae ch;clear ch ay;obtain⟨bx,bd,be⟩:=aZ.1.two;go_wp2_with (fail);generalize ah:World.setCell _ _ _=Z;obtain⟨bm,a9,bn⟩:=cx (w:=w) [.slice n bE aN,.slice y m L,.slice a4 o a2,.int .i64 s.fault] (by rfl) aZ.1 aZ.2 ad ah;have bf:=ai a9 bn;clear ah a9 bn bx bd be;obtain⟨bx,bd,be⟩:=bm.two;refine GM (v:=.tuple #[.agg #[.slice n bE aN,.slice y m L,.slice a4 o a2,.int .i64 s.fault],.bool false]) (by simp[results,Tryz.results16,go_sem,bx]) rfl ?_;rw[bW.o];show dE lp w s false _ _
  exact dT (Q:=s) (q:=⟨n,bE,aN,y,m,L,a4,o,a2⟩) cI.o bf.2 (fun b O=>ad) ad bf.1
 | some f=>
  obtain⟨bh,x,aC,aM⟩:=lN.of HA.1 HA.2.1 cj htop;have aR:=ae (tE htop aM);have g:=ae aC;have aq:x.op=1∨x.op=2∨x.op=3∨x.op=4∨x.op=5∨x.op=6∨x.op=7∨x.op=8:=by
   obtain⟨len,_,aJ⟩:=aC.ok;rcases aJ with⟨ac,_⟩|⟨ac,_⟩|⟨ac,_⟩|⟨ac,_⟩|⟨ac,_⟩|⟨ac,_⟩<;>omega
  have aQ:=ae aq;clear htop aM aC aq;go_wp2_with (fail);refine(rm u s t f bh x W ⟨GA,gn,gc,MA,mn,mc,PA,pn,pc⟩ ⟨bI,bG,bq,TA,tn,tc,bF,hn,hc⟩ ⟨g.sm,g.ht,g.hp,g.hx,g.hF.proc,g.pc.1,g.il,g.kl,aj.2.2.2.2.1,aj.2.2.2.2.2⟩).mono ?_;rintro e aH ⟨⟨eo,en,es,EA,em,ec,QA,qm,qc,cZ,j,cN,KA,db,kc⟩,rfl,bC,aI⟩;have aw:=ai bC aI;clear a0 al af a7 am aE bC aI;dsimp only[IV.val];go_upto_region 2 with(fail);generalize hV:World.alloc _ _=V;have J:Ext aH V:=hV▸GN.alloc _;have aa:ag V aH.heap.size 60 #[.int .i64 x.op,.int .i64 x.target,.bool x.da,.int .i64 eo,.int .i64 en,.string es,.slice EA em ec,.bool x.place.param,.int .i64 x.place.index,.slice QA qm qc,.slice cZ j cN,.slice KA db kc]:=hV▸GO;have S:Ext W V:=aw.2.trans J;have cv:=S.size;have bo:=aa.lt;have bs:=ae S;have au:=ae (aw.1.on J);obtain⟨a0,al,af⟩:=(aj.2.1.al S).two;obtain⟨a7,am,aE⟩:=(aj.2.2.1.al S).two;obtain⟨a6,aL,aP⟩:=aa.two;have aG:=ae aa;clear hV S J aa aw;have a3:w.heap.size+2<V.heap.size:=ad;rcases aQ.o with h|h|h|h|h|h|h|h
  ·
   have r:=ae h;have co:(x.op == 1)=true:=by simpa using h
   have ej:(x.op == 2)=false:=by simp;omega
   have cT:(x.op == 3)=false:=by simp;omega
   have c7:(x.op == 4)=false:=by simp;omega
   have bb:(x.op == 5)=false:=by simp;omega
   have c6:(x.op == 6)=false:=by simp;omega
   exact xT
  ·
   have r:=ae h;have co:(x.op == 1)=false:=by simp;omega
   have ej:(x.op == 2)=true:=by simpa using h
   have cT:(x.op == 3)=false:=by simp;omega
   exact xQ
  ·
   have r:=ae h;have co:(x.op == 1)=false:=by simp;omega
   have ej:(x.op == 2)=false:=by simp;omega
   have cT:(x.op == 3)=true:=by simpa using h
   exact xQ
  ·
   have r:=ae h;have co:(x.op == 1)=false:=by simp;omega
   have ej:(x.op == 2)=false:=by simp;omega
   have cT:(x.op == 3)=false:=by simp;omega
   have c7:(x.op == 4)=true:=by simpa using h
   have bb:(x.op == 5)=false:=by simp;omega
   exact xR
  ·
   have r:=ae h;have co:(x.op == 1)=false:=by simp;omega
   have ej:(x.op == 2)=false:=by simp;omega
   have cT:(x.op == 3)=false:=by simp;omega
   have c7:(x.op == 4)=false:=by simp;omega
   have bb:(x.op == 5)=true:=by simpa using h
   exact xR
  ·
   have r:=ae h;have co:(x.op == 1)=false:=by simp;omega
   have ej:(x.op == 2)=false:=by simp;omega
   have cT:(x.op == 3)=false:=by simp;omega
   have c7:(x.op == 4)=false:=by simp;omega
   have bb:(x.op == 5)=false:=by simp;omega
   have c6:(x.op == 6)=true:=by simpa using h
   exact xT
  ·
   have co:(x.op == 1)=false:=by simp;omega
   have ej:(x.op == 2)=false:=by simp;omega
   have cT:(x.op == 3)=false:=by simp;omega
   have c7:(x.op == 4)=false:=by simp;omega
   have bb:(x.op == 5)=false:=by simp;omega
   have c6:(x.op == 6)=false:=by simp;omega
   have az:(x.op == 7)=true:=by simpa using h
   have bQ:(x.op == 8)=false:=by simp;omega
   have bW:=ae (aR.trans (Cx h));clear h;go_wp2_with (fail);refine(eS s bI TA bF bG bq tn tc hn hc V (aj.2.2.2.2.2.on bs.o).at_ HA.2.2).mono ?_;rintro e bJ ⟨n,aN,y,L,a4,a2,xs,ak,ar,bS,bX,rfl,b8,bN,ay⟩;have bH:=aK b8 bN ay;have cB:=ay.size;clear b8 bN ay a7 am aE a0 al af a6 aL aP;go_upto_region 15 with(fail);generalize hU:World.alloc _ _=U;have ab:Ext bJ U:=hU▸GN.alloc _;have a8:ag U bJ.heap.size 40 #[.slice n bG aN,.slice y tn L,.slice a4 hn a2,.int .i64 s.fault]:=hU▸GO;have hOut:dg V.heap.size U s bJ.heap.size ⟨n,bG,aN,y,tn,L,a4,hn,a2⟩ xs ak ar bS bX:=
    ⟨bH.1.ao fun b O=>ab.block b (bH.2.1 b O).2 fun h=>h,a8,fun O=>by have:=(bH.2.1 _ O).2;omega,fun b O=>⟨(bH.2.1 b O).1,by have:=(bH.2.1 b O).2;have:=ab.size;omega⟩,cB⟩
   have i:Ext V U:=bH.2.2.trans ab;have I:=bs.trans i;obtain⟨bU,cV,ba,fs,bu,b2⟩:=g.th;have z:hn=s.threads.length:=by have:=aj.2.2.2.2.2.at_.h.1;simpa using this.symm
   have dD:t<(hn:Int):=ad;have bT:=aK bU bu b2;have cn:=aK hOut I i;obtain⟨e0,bl,a5⟩:=hOut.o.two;clear hU ab a8 hOut i I bU ba bu b2 z;obtain⟨cE,c1,dF,cU,cS,dd,cY,c0,bR,cC,ap⟩:=cn.1.top bT.2.1 cV bT.1 bT.2.2;have P:=ai cC ap;obtain⟨a6,aL,aP⟩:=(show ag U aH.heap.size 60 _ from aG.al cn.2.2).two;clear cC ap c0 bR;go_upto_region 16 with(fail);refine eh (fun _=>False) [(0,0),(1,3),(3,3),(4,0),(2,1),(5,3),(6,3),(7,2)] ?_;refine ph ?_
   iterate 2 refine pf ?_
   refine ph ?_;refine aA rfl (fun K hK=>?_);go_simp;refine(P.1 U.drew GN.drew).mono ?_;rintro e cy ⟨rfl,b3⟩;have aT:=ae (P.2 cy (Fr.aE b3));have cu:=ae (cn.2.1.trans (Fr.aE b3));refine hK _ _ (b3) ?_;clear hK K
   try simp only[PU]
   clear b3 e0 bl a5 a6 aL aP
   iterate 2 refine pf ?_
   have b4:=aT.c1;have g2:=aT.fz;have cD:=aT.lt;exact dN
  ·
   have co:(x.op == 1)=false:=by simp;omega
   have ej:(x.op == 2)=false:=by simp;omega
   have cT:(x.op == 3)=false:=by simp;omega
   have c7:(x.op == 4)=false:=by simp;omega
   have bb:(x.op == 5)=false:=by simp;omega
   have c6:(x.op == 6)=false:=by simp;omega
   have az:(x.op == 7)=false:=by simp;omega
   have bQ:(x.op == 8)=true:=by simpa using h
   have bW:=ae (aR.trans (Cy h));clear h;go_wp2_with (fail);refine(eS s bI TA bF bG bq tn tc hn hc V (aj.2.2.2.2.2.on bs.o).at_ HA.2.2).mono ?_;rintro e bJ ⟨n,aN,y,L,a4,a2,xs,ak,ar,bS,bX,rfl,b8,bN,ay⟩;have bH:=aK b8 bN ay;have cB:=ay.size;clear b8 bN ay a7 am aE a0 al af a6 aL aP;go_upto_region 15 with(fail);generalize hU:World.alloc _ _=U;have ab:Ext bJ U:=hU▸GN.alloc _;have a8:ag U bJ.heap.size 40 #[.slice n bG aN,.slice y tn L,.slice a4 hn a2,.int .i64 s.fault]:=hU▸GO;have hOut:dg V.heap.size U s bJ.heap.size ⟨n,bG,aN,y,tn,L,a4,hn,a2⟩ xs ak ar bS bX:=
    ⟨bH.1.ao fun b O=>ab.block b (bH.2.1 b O).2 fun h=>h,a8,fun O=>by have:=(bH.2.1 _ O).2;omega,fun b O=>⟨(bH.2.1 b O).1,by have:=(bH.2.1 b O).2;have:=ab.size;omega⟩,cB⟩
   have i:Ext V U:=bH.2.2.trans ab;have I:=bs.trans i;obtain⟨bU,cV,ba,fs,bu,b2⟩:=g.th;have z:hn=s.threads.length:=by have:=aj.2.2.2.2.2.at_.h.1;simpa using this.symm
   have dD:t<(hn:Int):=ad;have bT:=aK bU bu b2;have cn:=aK hOut I i;obtain⟨e0,bl,a5⟩:=hOut.o.two;clear hU ab a8 hOut i I bU ba bu b2 z;obtain⟨O,bY,fc,T,aY,R,cr,bj,dh,aW,bc,H⟩:=cn.1.pop bT.2.1;simp only at T;subst T;have aS:=ae H;have dS:=bT.2.2;obtain⟨a6,aL,aP⟩:=(show ag U aH.heap.size 60 _ from aG.al cn.2.2).two;clear H;go_upto_region 18 with(fail);refine eh (fun _=>False) [(0,3),(1,0),(2,3),(3,3),(4,3),(5,3),(6,3),(7,3),(8,3),(9,3),(10,2)] ?_;refine pf ?_;refine ph ?_
   iterate 5 refine pf ?_
   rw[show IntKind.i64.wrap ((fs.length:Nat):Int)=(fs.length:Int) from IntWalk.i64_in _ ad];have aU:((fs.length:Nat):Int)≤(fc:Int):=ad
   iterate 3 refine pf ?_
   exact h5
 ):p:=h
end zq
open zq in
theorem DE(u:aF)(s:an)(t:Int)(N:Nat)(w:World)(p:UV)(q:SV)(hU:vV u)(hS:a1 u N s)(cj:N≤100000)(hu:p.Ok w u)(hs:q.Ok w s) :
  Calls prog 16 #[.agg (p.val u),.agg (q.val s),.int .i64 t] w (dE lp w (ew u s t).1 (ew u s t).2):=by
 have HA:=aK hU hS (hS.small hU.ok cj);have cg:=ai hu hs;clear hU hS hu hs;obtain⟨GA,gn,gc,MA,mn,mc,PA,pn,pc⟩:=p;obtain⟨bI,bG,bq,TA,tn,tc,bF,hn,hc⟩:=q;dsimp only[UV.val,SV.val];go_enter func16,ntmps16;exact iS
def CO(P:Nat→Prop)(w:World)(s:an)(e:Ending)(ab:World):Prop:=∃q:SV,e=.returned (.agg (q.val s))∧q.Is ab (fun k=>P k∨(w.heap.size≤k∧k<ab.heap.size)) s∧Ext w ab
theorem uO(u:aF):iE u=⟨u.globals,List.replicate (own u.af).length ⟨0,0⟩,[[c9 u u.main [] []]],0⟩:=rfl
theorem cG.below{α:Type}{f:α→List Value}{sz:Nat}{ab:World}{n:Nat}{A:GR}{l:List α}(h:cG (EF f) sz w B A n l)(ap:∀b,b<B→ab.heap[b]?=w.heap[b]?):cG (EF f) sz ab B A n l:=by
 refine⟨h.1,fun hn=>?_⟩;obtain⟨b,o,bb,O,hc⟩:=h.2 hn;refine⟨b,o,bb,O,fun k x hx=>?_⟩;obtain⟨cs,he,hl,ba⟩:=hc k x hx;exact⟨cs,he,hl,fun j v bC=>(World.cell?_of_block (w:=w) (ap b O)).trans (ba j v bC)⟩
theorem Cc(A:GR)(n c:Nat)(X:List bF)(w:World)(h:cG (EF hi) 3 w w.heap.size A n X)(ah:oQ X) :
  Calls prog 28 #[.slice A n c] w fun r ab=>∃az aG,r=.returned (.slice az (own X).length aG)∧ab.ownsRow w.heap.size 87 2 (.slice az (own X).length aG) (own X).length ((List.replicate (own X).length ⟨0,0⟩).flatMap bZ)∧Below w.heap.size w ab:=by
 go_enter func28,ntmps28;go_wp2_with (fail);refine(gR A n c X w h ah).mono ?_;rintro e aH ⟨rfl,O⟩;have Q:=eY X;have a:=dy ah;generalize cj:(own X).length=N at *;rw[←Q];clear Q;have dW:=fun W=>run_mk p1 .i64 .i64 N ad ad W;go_wp2;go_ret;have cf:=O.size;have I:=tp (e:=87) (f:=bZ) (x:=⟨0,0⟩) (zc:=#[.int .i64 0,.int .i64 0]) (sz:=2) rfl rfl ad N ad (w:=aH) (base:=w.heap.size) cf;rw[cj];exact⟨_,_,rfl,I,O.alloc cf _⟩
namespace zr
theorem di(h:p:=by
 generalize ah:World.setCell _ _ _=Z;have G:Ext w V:=((aj.1.trans aW.o).trans bH.2.1).trans g.1;obtain⟨bm,a9,bn⟩:=cx (w:=w) [.slice bc gn aN,.slice a3 (own u.af).length L,.slice (some ⟨bJ.heap.size+1,0,none⟩) 1 1,.int .i64 0] (by rfl) aq.o G ad ah;have bf:=ai a9 bn;clear ah a9 bn bx bd be G;obtain⟨bx,bd,be⟩:=bm.two;clear bm;go_wp2_with (fail);refine GM (v:=.agg #[.slice bc gn aN,.slice a3 (own u.af).length L,.slice (some ⟨bJ.heap.size+1,0,none⟩) 1 1,.int .i64 0]) (by simp[results,Tryz.results8,go_sem,bx]) rfl ?_;have cG:=bf.2.size;have m:∀b,b<V.heap.size→b≠w.heap.size+1→Z.heap[b]?=V.heap[b]?:=fun b ac J=>bf.2.block b ac J;have bp:w.heap.size+1<W.heap.size:=dx;have cm:∀b,aH.heap.size≤b→b<V.heap.size→Z.heap[b]?=V.heap[b]?:=fun b ac J=>m b J ad;have a1:Own Z 3 1 bc gn aN (u.globals.map dV) (bB bc gn aN):=H1.1.ao fun b O=>by
  have:=H1.2.1 b O;have H:W.drew.heap.size=W.heap.size:=rfl;exact(m b ad ad).trans ((g.1.block b ad fun h=>h).trans ((bH.2.1.block b ad fun h=>h).trans (bk.2.2.block b ad fun h=>h)))
 have cc:gn=u.globals.length:=by have:=(aj.2.2).at_.g.1;rw[Gf] at this;exact this.symm
 have H:W.drew.heap.size=W.heap.size:=rfl;have bR:Sl Z (fun k=>False∨(w.heap.size≤k∧k<Z.heap.size)) bc gn (u.globals.map D.i):=a1.sl (d0 _) (by simp[cc]) fun b O=>by
  have:=H1.2.1 b O;exact .inr ⟨ad,ad⟩
 have n:Own Z 87 2 a3 (own u.af).length L ((List.replicate (own u.af).length ⟨0,0⟩).flatMap bZ) (bB a3 (own u.af).length L):=bk.1.ao fun b O=>by
  have:=bk.2.1 b O;exact(m b ad ad).trans ((g.1.block b ad fun h=>h).trans (bH.2.1.block b ad fun h=>h))
 have aR:Sl Z (fun k=>False∨(w.heap.size≤k∧k<Z.heap.size)) a3 (own u.af).length ((List.replicate (own u.af).length ⟨0,0⟩).map mQ):=n.sl (fZ _) (by simp) fun b O=>by
  have:=bk.2.1 b O;exact .inr ⟨ad,ad⟩
 have t:=g.2.1.on bf.2 ad;have E:=g.2.2.on bf.2 ad;have Q:=g.2.1.lt;have l:(fh i).rep Z (fun k=>False∨(w.heap.size≤k∧k<Z.heap.size)) [.int .i64 i.proc,.int .i64 i.pc,.slice FA dk aM,.slice du fl a4]:=D.aP (fun b O=>.inr ⟨by have:=O.1;omega,by have:=O.2;omega⟩) _ _ (D.bg (fun b O=>(m b (aB O.2) (aB O.1)).trans (g.1.block b O.2 fun h=>h)) _ _ bH.1);have hF:Sl Z (fun k=>False∨(w.heap.size≤k∧k<Z.heap.size)) (some ⟨bJ.heap.size,0,none⟩) 1 ([i].map fh):=⟨rfl,fun _=>⟨bJ.heap.size,0,_,rfl,.inr ⟨ad,ad⟩,D.bH.2 l,fun j v ba=>by
  rw[Gv,t.cell];simpa using ba⟩⟩
 have I:Sl Z (fun k=>False∨(w.heap.size≤k∧k<Z.heap.size)) (some ⟨bJ.heap.size+1,0,none⟩) 1 ([[i]].map kD):=⟨rfl,fun _=>⟨bJ.heap.size+1,0,[.slice (some ⟨bJ.heap.size,0,none⟩) 1 1],rfl,.inr ⟨ad,ad⟩,D.bH.2 (iA.2 ⟨_,1,1,rfl,Gb _,hF⟩),fun j v ba=>by
  rw[Gv,E.cell];simpa using ba⟩⟩
 have z:iE u=⟨u.globals,List.replicate (own u.af).length ⟨0,0⟩,[[i]],0⟩:=by rw[uO,bH.2.2]
 rw[z];have F:(⟨bc,gn,aN,a3,(own u.af).length,L,some ⟨bJ.heap.size+1,0,none⟩,1,1⟩:SV).Is Z (fun k=>False∨(w.heap.size≤k∧k<Z.heap.size)) ⟨u.globals,List.replicate (own u.af).length ⟨0,0⟩,[[i]],0⟩:=⟨⟨bR,aR,I⟩,a1.cap,n.cap,Gb _⟩
 exact⟨⟨bc,gn,aN,a3,(own u.af).length,L,some ⟨bJ.heap.size+1,0,none⟩,1,1⟩,rfl,F,bf.1⟩
 ):p:=h
theorem pU(h:p:=by
 refine pf ?_;refine ox (fun V=>Ext bJ V∧ag V bJ.heap.size 76 #[.int .i64 i.proc,.int .i64 i.pc,.slice FA dk aM,.slice du fl a4]∧ag V (bJ.heap.size+1) 80 #[.slice (some ⟨bJ.heap.size,0,none⟩) 1 1]) ⟨(GN.alloc _).alloc _,(GO).alloc _,ag.bR _ _ _ (by simp)⟩ (fun V hV=>?_);have g:=ae hV;have R:=aZ.al hV.1;have cv:=hV.1.size;have P:=hV.2.2.lt;clear hV;obtain⟨bx,bd,be⟩:=R.two;have aq:=ae R;clear R;exact dN
 ):p:=h
theorem fN(h:p:=by
 have aT:ag W w.heap.size 30 #[.slice GA gn gc,.slice MA mn mc,.slice PA pn pc,.int .i64 u.main]:=bg▸(GO).alloc _;have b6:ag W (w.heap.size+1) 40 #[.slice none 0 0,.slice none 0 0,.slice none 0 0,.int .i64 0]:=bg▸ag.bR _ _ _ (by simp);have aj:=aK av b6 (cg.on av);have cH:=av.size;have dx:=b6.lt;obtain⟨a0,al,af⟩:=aT.two;clear bg av aT b6 cg;refine eh (fun _=>False) [(0,3),(1,0),(3,3),(4,0),(6,0),(7,3),(8,0),(2,1),(5,1),(9,2),(10,2),(11,3),(12,2),(13,3),(14,2)] ?_;refine pf ?_;refine ph ?_;refine pf ?_
 iterate 2 refine ph ?_
 refine pf ?_;refine ph ?_;refine aA rfl (fun K hK=>?_);go_simp;refine(Sl.kA (aj.2.2.on (Fr.refl _ W).drew).at_.g bC).mono ?_;rintro r aH ⟨bc,aN,rfl,y,N,ar⟩;have H1:=aK y N (Fr.aE ar);refine hK _ _ (ar) ?_;clear hK K
 try simp only[PU]
 clear y N ar;refine aA rfl (fun K hK=>?_);go_simp;refine(Cc MA mn mc u.af aH (aj.2.2.on H1.2.2).at_.m.ql cn.1.ok.BB).mono ?_;rintro r aQ ⟨a3,L,rfl,s,bt⟩;have f:Own aQ 87 2 a3 (own u.af).length L ((List.replicate (own u.af).length ⟨0,0⟩).flatMap bZ) (bB a3 (own u.af).length L):=⟨lr s (Gz _),rfl⟩
 have o:∀b∈bB a3 (own u.af).length L,aH.heap.size≤b∧b<aQ.heap.size:=fun b O=>s.lt b (by simpa using O);have bk:=aK f o (Fr.of (M:=fun _=>False) bt);have bU:=bt.size;refine hK _ _ (Fr.of bt) ?_;clear hK K
 try simp only[PU]
 clear s f o bt;have aO:Ext W aQ:=H1.2.2.trans bk.2.2;have bK:=aO.size;have b7:=H1.2.2.size;have aW:=ae aO;refine ax rfl (fun K hK=>?_);go_simp;refine(mframe u u.main dP [] [] none none 0 0 0 0 aQ ⟨GA,gn,gc,MA,mn,mc,PA,pn,pc⟩ (aj.2.2.on aO) cn.2.1 cn.2.2.1 (by have:=cn.2.2.2.ints;simp;omega) cn.2.2.2.ints.2.2 (by simp) (Sl.bu _) (Sl.bu _)).mono ?_;rintro e bJ ⟨FA,dk,aM,du,fl,a4,rfl,bQ,ay⟩;generalize cF:c9 u u.main [] []=i at *;have bH:=aK bQ ay cF;have cB:=ay.size;have b5:=(aj.2.1.al aO).al ay;clear bQ ay cF aO a0 al af;have aZ:=ae b5;clear b5;exact x6
 ):p:=h
end zr
open zr in
theorem Ed(u:aF)(w:World)(p:UV)(hU:vV u)(hu:p.Ok w u) :
  Calls prog 8 #[.agg (p.val u)] w (CO (fun _=>False) w (iE u)):=by
 obtain⟨GA,gn,gc,MA,mn,mc,PA,pn,pc⟩:=p;obtain⟨dP,an,bs,bz,aC⟩:=hU.ok.main;have c3:=hU.ok.procs dP (Ge bs);have bC:gn≤100000:=by have ac:=hu.at_.g.1;have J:=hU.ok.mB;rw[Gf] at ac;have aS:u.globals.length=gn:=ac;omega
 have cn:=bO hU an bs c3;have cg:=ae hu;clear hU an bs bz aC c3 hu;dsimp only[UV.val];go_enter func8,ntmps8;exact fM
end Go.Proofs.YtjhgbdckgkppnaaGreat

/- Part 37 of the proof. No condition of its own. -/
import Derived.Test.YtbkhhfajcgkpgaaGreatQ36
namespace Go.Proofs.YtbkhhfajcgkpgaaGreat
open Go.RowKit Go.Proofs.Tryz
set_option maxRecDepth 1000000
set_option maxHeartbeats 25600000
set_option linter.unusedVariables false
variable{p:Prop}
namespace B1
theorem Ad(h:p:=by
 rw[bX.o];exact y3
 ):p:=h
theorem zA(h:p:=by
 clear b9 a4 a0 ap ak d0 ag aR e0 a5 aZ c0 c1 c2 c3 aj flb aw bo i J a6 am aI;exact Fi
 ):p:=h
theorem rT(h:p:=by
 first
  | have de:(x.op == 8)=true:=by simpa using h
  | have de:(x.op == 8)=false:=by simp;omega
 have cn:=ad h;clear h;go_wp2_with(fail);refine(lR u s t f x.place N X ⟨GA,gn,gc,MA,mn,mc,PA,pn,pc⟩ ⟨bp,bQ,a7,TA,tn,tc,HA,hn,hc⟩ QA qm qc ⟨g.hU.ok,g.hS,g.sm,g.ht,⟨Q,g.hp,b4.1⟩,ax.2.2.2.2.1.on aP.2.2,ax.2.2.2.2.2.on aP.2.2,(dj.on aP.2.1).place⟩).mono ?_;rintro e ci ⟨rfl,bI⟩;rw[jG g.ht];have a2:Ext X ci:=Fr.of bI;have b0:=b4.2.2;have K:=ad aA.o;generalize bk u s f x.place=R at *;obtain⟨aL,z⟩:=R;have aJ:=ad b0;have m:=aQ (RO.ak aP.1 a2) (aP.2.1.trans a2) (aP.2.2.trans a2);have bA:=ad m.2.2;have db:=a2.size;clear b0 bI a2 a0 ap ak a6 am aI d0 ag aR e0 a5 aZ c0 c1 c2 c3 aj flb aw bo i J;obtain⟨a6,am,aI⟩:=(ax.2.2.1.ak m.2.2).two;obtain⟨d0,ag,aR⟩:=(cC.ak m.2.1).two;obtain⟨e0,a5,aZ⟩:=m.1.o.two;obtain⟨bo,i,flb,aw,aj,c0,c1,c2,c3,J⟩:=m.1.top;obtain⟨a0,ap,ak⟩:=(ax.2.1.ak bA.o).two;by_cases bi:z=0
 case neg=>
  have bX:=ad (K.bad bi);have dn:(z != 0)=true:=by simpa using bi
  exact zz
 have dn:(z != 0)=false:=by simpa using bi
 have aB:=aJ.2 bi;have bq:=lI g.hU.ok;have aU:aL≤5000:=by simp only at aB;omega
 have aK:=ad bi;clear bi aB bq
 ):p:=h
theorem rR(h:p:=by
 rcases c5.o with h|h
 all_goals
  first
   | have q1:(x.op == 1)=true:=by simpa using h
   | have q1:(x.op == 1)=false:=by simp;omega
  first
   | have cB:(x.op == 2)=true:=by simpa using h
   | have cB:(x.op == 2)=false:=by simp;omega
  first
   | have cv:(x.op == 3)=true:=by simpa using h
   | have cv:(x.op == 3)=false:=by simp;omega
  first
   | have cF:(x.op == 4)=true:=by simpa using h
   | have cF:(x.op == 4)=false:=by simp;omega
  first
   | have q5:(x.op == 5)=true:=by simpa using h
   | have q5:(x.op == 5)=false:=by simp;omega
  first
   | have dg:(x.op == 6)=true:=by simpa using h
   | have dg:(x.op == 6)=false:=by simp;omega
  first
   | have q7:(x.op == 7)=true:=by simpa using h
   | have q7:(x.op == 7)=false:=by simp;omega
  first
   | have de:(x.op == 8)=true:=by simpa using h
   | have de:(x.op == 8)=false:=by simp;omega
  have cn:=ad h;clear h;go_wp2_with(fail);refine(lR u s t f x.place N X ⟨GA,gn,gc,MA,mn,mc,PA,pn,pc⟩ ⟨bp,bQ,a7,TA,tn,tc,HA,hn,hc⟩ QA qm qc ⟨g.hU.ok,g.hS,g.sm,g.ht,⟨Q,g.hp,b4.1⟩,ax.2.2.2.2.1.on aP.2.2,ax.2.2.2.2.2.on aP.2.2,(dj.on aP.2.1).place⟩).mono ?_;rintro e ci ⟨rfl,bI⟩;rw[jG g.ht];have a2:Ext X ci:=Fr.of bI;have b0:=b4.2.2;have K:=ad aA.o;generalize bk u s f x.place=R at *;obtain⟨aL,z⟩:=R;have aJ:=ad b0;have m:=aQ (RO.ak aP.1 a2) (aP.2.1.trans a2) (aP.2.2.trans a2);have bA:=ad m.2.2;have db:=a2.size;clear b0 bI a2 a0 ap ak a6 am aI d0 ag aR e0 a5 aZ c0 c1 c2 c3 aj flb aw bo i J;obtain⟨a6,am,aI⟩:=(ax.2.2.1.ak m.2.2).two;obtain⟨d0,ag,aR⟩:=(cC.ak m.2.1).two;obtain⟨e0,a5,aZ⟩:=m.1.o.two;obtain⟨bo,i,flb,aw,aj,c0,c1,c2,c3,J⟩:=m.1.top;obtain⟨a0,ap,ak⟩:=(ax.2.1.ak bA.o).two;by_cases bi:z=0
  case neg=>
   have bX:=ad (K.bad bi);have dn:(z != 0)=true:=by simpa using bi
   exact zz
  have dn:(z != 0)=false:=by simpa using bi
  have aB:=aJ.2 bi;have bq:=lI g.hU.ok;have aU:aL≤5000:=by simp only at aB;omega
  have aK:=ad bi;clear bi aB bq
 ·
  have bK:=ad (K.lf aK.o cn.o);have bz:=ad (K.ln aK.o cn.o);go_wp2_with(fail);refine(tS MA TA mn mc tn tc u.ae s.table aL t ci (ax.2.2.2.2.1.on bA.o).at_.m.qG g.hU.ok.DM (ax.2.2.2.2.2.on bA.o).at_.t.holds b4.2.1 ab).mono ?_;intro e cx aa;have ac:(hq u.ae s.table aL t).length=tn:=by rw[jO];exact ce.2.2.2.1.symm
  obtain⟨I,az,rfl,bS,bT,S,aH⟩:=aa.open_ (n:=tn) ac;have a4:Ext ci cx:=Fr.of aH;generalize hT:hq u.ae s.table aL t=T at *;have r:Own cx 83 2 I tn az (T.flatMap cz) (bt I tn az):=⟨mu S (Kc _),rfl⟩
  have ar:∀b∈bt I tn az,ci.heap.size≤b∧b<cx.heap.size:=fun b O=>S.lt b (by simpa using O);have aq:Sl cx (fun b=>ci.heap.size≤b∧b<cx.heap.size) I tn (T.map me):=r.sl (dD _) (by rw[JU];exact ac) ar;have aC:=aQ (RO.ak m.1 a4) (m.2.1.trans a4) (m.2.2.trans a4);have L:=ai aq bS;have cs:=a4.size;clear hT ac aa bT S aH a4 r ar aq bS a0 ap ak a6 am aI d0 ag aR e0 a5 aZ c0 c1 c2 c3 aj flb aw bo i J;obtain⟨a6,am,aI⟩:=(ax.2.2.1.ak aC.2.2).two;obtain⟨d0,ag,aR⟩:=(cC.ak aC.2.1).two;obtain⟨e0,a5,aZ⟩:=aC.1.o.two;obtain⟨bo,i,flb,aw,aj,c0,c1,c2,c3,J⟩:=aC.1.top;go_upto_region 38 with(fail);generalize hX:World.setCell _ _ _=Y;obtain⟨b5,bE⟩:=aC.1.HT L.1 L.2 (fun b aW=>.inr ⟨by have:=aP.1.lo bU.heap.size (by simp);have:=aW.1;omega,aW.2,by have:=aP.1.lo bU.heap.size (by simp);have:=aW.1;omega⟩) hX;have cr:Fr (fun b=>b=bU.heap.size) cx Y:=hX▸(Fr.refl (fun b=>b=bU.heap.size) cx).setCell (.inl rfl) _;have c7:=(aP.1.lo bU.heap.size (by simp)).1;have o:Ext V Y:=Fr.low (M:=fun b=>b=bU.heap.size) (Fr.trans (Fr.mono aC.2.1 fun _ h=>h.elim) cr) fun b O=>ab;have bM:=aQ b5 bE (b1.trans o);have aS:=ad bM.2.2;have bc:=o.size;clear hX b5 bE cr o a6 am aI d0 ag aR e0 a5 aZ c0 c1 c2 c3 aj flb aw bo i J
  cases H:free u.ae s.table aL t with
  | true=>
   exact Ff
  | false=>
   have bX:=ad (bz.o H);obtain⟨a6,am,aI⟩:=(ax.2.2.1.ak aS.o).two;have aX:=ai (ax.2.2.2.1.ak aS.o) (ax.1.trans aS.o);obtain⟨bv,bd,be⟩:=aX.1.two;go_wp2_with(fail);generalize hX:World.setCell _ _ _=Z;obtain⟨bC,bl,bn⟩:=cb (w:=w) [.slice bp bQ a7,.slice TA tn tc,.slice HA hn hc,.int .i64 s.fault] (by rfl) aX.1 aX.2 ab hX;exact Ac
 ·
  have bK:=ad (K.uf aK.o cn.o);have bz:=ad (K.un aK.o cn.o);go_wp2_with(fail);refine(qJ MA TA mn mc tn tc u.ae s.table aL t ci (ax.2.2.2.2.1.on bA.o).at_.m.qG g.hU.ok.DM (ax.2.2.2.2.2.on bA.o).at_.t.holds b4.2.1 ab).mono ?_;intro e cx aa;have ac:(dI u.ae s.table aL t).length=tn:=by rw[iy];exact ce.2.2.2.1.symm
  obtain⟨I,az,rfl,bS,bT,S,aH⟩:=aa.open_ (n:=tn) ac;have a4:Ext ci cx:=Fr.of aH;generalize hT:dI u.ae s.table aL t=T at *;have r:Own cx 83 2 I tn az (T.flatMap cz) (bt I tn az):=⟨mu S (Kc _),rfl⟩
  have ar:∀b∈bt I tn az,ci.heap.size≤b∧b<cx.heap.size:=fun b O=>S.lt b (by simpa using O);have aq:Sl cx (fun b=>ci.heap.size≤b∧b<cx.heap.size) I tn (T.map me):=r.sl (dD _) (by rw[JU];exact ac) ar;have aC:=aQ (RO.ak m.1 a4) (m.2.1.trans a4) (m.2.2.trans a4);have L:=ai aq bS;have cs:=a4.size;clear hT ac aa bT S aH a4 r ar aq bS a0 ap ak a6 am aI d0 ag aR e0 a5 aZ c0 c1 c2 c3 aj flb aw bo i J;obtain⟨a6,am,aI⟩:=(ax.2.2.1.ak aC.2.2).two;obtain⟨d0,ag,aR⟩:=(cC.ak aC.2.1).two;obtain⟨e0,a5,aZ⟩:=aC.1.o.two;obtain⟨bo,i,flb,aw,aj,c0,c1,c2,c3,J⟩:=aC.1.top;go_upto_region 41 with(fail);generalize hX:World.setCell _ _ _=Y;obtain⟨b5,bE⟩:=aC.1.HT L.1 L.2 (fun b aW=>.inr ⟨by have:=aP.1.lo bU.heap.size (by simp);have:=aW.1;omega,aW.2,by have:=aP.1.lo bU.heap.size (by simp);have:=aW.1;omega⟩) hX;have cr:Fr (fun b=>b=bU.heap.size) cx Y:=hX▸(Fr.refl (fun b=>b=bU.heap.size) cx).setCell (.inl rfl) _;have c7:=(aP.1.lo bU.heap.size (by simp)).1;have o:Ext V Y:=Fr.low (M:=fun b=>b=bU.heap.size) (Fr.trans (Fr.mono aC.2.1 fun _ h=>h.elim) cr) fun b O=>ab;have bM:=aQ b5 bE (b1.trans o);have aS:=ad bM.2.2;have bc:=o.size;clear hX b5 bE cr o a6 am aI d0 ag aR e0 a5 aZ c0 c1 c2 c3 aj flb aw bo i J
  cases H:heldBy u.ae s.table aL t with
  | true=>
   exact Ff
  | false=>
   have bX:=ad (bz.o H);obtain⟨a6,am,aI⟩:=(ax.2.2.1.ak aS.o).two;have cS:=aS.size;go_wp2_with(fail);refine(oB P s ⟨bp,bQ,a7,TA,tn,tc,HA,hn,hc⟩ 3 Y (cc.2.2.FQ k.o (ax.1.trans aS.o)) (fun b O=>JR (k.o b O) (ax.1.trans aS.o).size)).mono ?_;rintro e cx ⟨⟨da,bR,bW,cq,cd,b6,bL,co,bJ⟩,rfl,b9,a4⟩;have f2:=a4.size;have cm:=ad b9;have aX:=ai (ax.2.2.2.1.ak (aS.trans a4)) ((ax.1.trans aS.o).trans a4);clear b9 a4 a6 am aI;obtain⟨bv,bd,be⟩:=aX.1.two;go_wp2_with(fail);generalize hX:World.setCell _ _ _=Z;obtain⟨bC,bl,bn⟩:=cb (w:=w) [.slice da bR bW,.slice cq cd b6,.slice bL co bJ,.int .i64 3] (by rfl) aX.1 aX.2 ab hX;have ba:=ai bl bn;clear hX bl bn bv bd be;obtain⟨bv,bd,be⟩:=bC.two;refine Km (v:=.tuple #[.agg #[.slice da bR bW,.slice cq cd b6,.slice bL co bJ,.int .i64 3],.bool true]) (by simp[results,Tryz.results25,go_sem,bv]) rfl ?_;rw[bX.o];exact eS (B:=Y.heap.size) (aV:={s with fault:=3}) cm.o ba.2 (fun b O=>⟨fun hl=>by have:=k.o b hl;omega,ab⟩) (fun b O=>by have:=k.o b O;omega) ab ba.1 rfl
 ):p:=h
theorem rP(h:p:=by
 exact rQ
 ):p:=h
theorem rX(h:p:=by
 exact rO
 ):p:=h
theorem rV(h:p:=by
 have bb:cJ (bh u) Q.locals Q.aw x.place:=by
  obtain⟨len,_,al⟩:=h.ok;exact yN
 have au:=h.hS.ys;have b3:t≤1000:=ab;have eN:=h.hS.tok hN;have b0:=ji (s:=s) (nl:=Q.locals) (nk:=f.aw.length) h.hU.ok h.hF (Int.le_refl _) (by rw[h.hF.vy h.hp];exact bb);have aA:=ad (Jf (u:=u) (s:=s) (t:=t) (f:=f) (x:=x) aE);have b4:=aQ bb eN b0;clear bb eN b0 au;exact rW
 ):p:=h
end B1
open B1 in
theorem qd(u:av)(s:ah)(t:Int)(f:an)(Q:c6)(x:ay)(N:Nat)(P:Nat→Prop)(w:World)(p:UV)(q:SV)(h:k6 u s t f Q x N)(hN:N≤100000)(aE:x.op=4∨x.op=5)(hu:p.Ok w u)(bF:q.Is w P s)(aY:∀b,P b→b<w.heap.size) :
  Calls prog 25 #[.agg (p.val u),.agg (q.val s),.int .i64 t] w (l2 P w (cj u s t f x).1 (cj u s t f x).2):=by
 exact rU
namespace B2
theorem uO(h:p:=by
 rw[bX.o];exact eS (B:=V.heap.size) bM.1 ba.2.drew (fun b O=>⟨fun hl=>by have:=k.o b hl;omega,ab⟩) (fun b O=>by have:=k.o b O;omega) ab ba.1.drew (by rw[Ew ce.2.1,List.set_set])
 ):p:=h
theorem fK(h:p:=by
 generalize hX:World.setCell _ _ _=Y;obtain⟨m,bt⟩:=aP.1.drop hX;have ar:Fr (fun b=>b=O) X Y:=hX▸(Fr.refl (fun b=>b=O) X).setCell (.inl rfl) _;have r:=(aP.1.lo O (by simp)).1;have o:Ext V Y:=Fr.low (M:=fun b=>b=O) (Fr.trans (Fr.mono aP.2.1 fun _ h=>h.elim) ar) fun b O=>ab;have bM:=aQ m bt (b1.trans o);have bc:=o.size;clear hX m bt ar o a0 ap ak a6 am aI d0 ag aR e0 a5 aZ c0 c1 c2 c3 aj flb aw;exact uN
 ):p:=h
theorem rT(h:p:=by
 first
  | have de:(x.op == 8)=true:=by simpa using h
  | have de:(x.op == 8)=false:=by simp;omega
 ):p:=h
theorem rR(h:p:=by
 rcases c5.o with h|h
 all_goals
  first
   | have q1:(x.op == 1)=true:=by simpa using h
   | have q1:(x.op == 1)=false:=by simp;omega
  first
   | have cB:(x.op == 2)=true:=by simpa using h
   | have cB:(x.op == 2)=false:=by simp;omega
  first
   | have cv:(x.op == 3)=true:=by simpa using h
   | have cv:(x.op == 3)=false:=by simp;omega
  first
   | have cF:(x.op == 4)=true:=by simpa using h
   | have cF:(x.op == 4)=false:=by simp;omega
  first
   | have q5:(x.op == 5)=true:=by simpa using h
   | have q5:(x.op == 5)=false:=by simp;omega
  first
   | have dg:(x.op == 6)=true:=by simpa using h
   | have dg:(x.op == 6)=false:=by simp;omega
  first
   | have q7:(x.op == 7)=true:=by simpa using h
   | have q7:(x.op == 7)=false:=by simp;omega
  first
   | have de:(x.op == 8)=true:=by simpa using h
   | have de:(x.op == 8)=false:=by simp;omega
 ·
  have bX:=ad (EV (u:=u) (s:=s) (t:=t) (f:=f) h);clear h;go_upto_region 45 with(fail);generalize hX:World.setCell _ _ _=Y;have n:=aP.1.pc x.target;rw[hX] at n;have ar:Fr (fun b=>b=lb) X Y:=hX▸(Fr.refl (fun b=>b=lb) X).setCell (.inl rfl) _;have o:Ext V Y:=Fr.low (M:=fun b=>b=lb) (Fr.trans (Fr.mono aP.2.1 fun _ h=>h.elim) ar) fun b O=>ab;have bM:=aQ n.is n.o (b1.trans o);have bc:=o.size;clear hX n ar o a0 ap ak a6 am aI d0 ag aR e0 a5 aZ c0 c1 c2 c3 aj flb aw;exact Fg
 ·
  have bX:=ad (EW (u:=u) (s:=s) (t:=t) (f:=f) h);clear h;go_upto_region 9 with(fail);refine eE (fun _=>False) [(0,3),(1,0),(2,3),(3,3),(4,3),(5,3),(6,3),(7,3),(8,3),(9,3),(10,2)] ?_;refine pf ?_;refine ph ?_
  iterate 5 refine pf ?_
  rw[show IntKind.i64.wrap ((fs.length:Nat):Int)=(fs.length:Int) from IntWalk.i64_in _ ab]
  iterate 3 refine pf ?_
  exact fJ
 ):p:=h
theorem rP(h:p:=by
 exact rQ
 ):p:=h
theorem rX(h:p:=by
 exact rO
 ):p:=h
theorem rV(h:p:=by
 exact rW
 ):p:=h
end B2
open B2 in
theorem qe(u:av)(s:ah)(t:Int)(f:an)(Q:c6)(x:ay)(N:Nat)(P:Nat→Prop)(w:World)(p:UV)(q:SV)(h:k6 u s t f Q x N)(hN:N≤100000)(aE:x.op=7∨x.op=8)(hu:p.Ok w u)(bF:q.Is w P s)(aY:∀b,P b→b<w.heap.size) :
  Calls prog 25 #[.agg (p.val u),.agg (q.val s),.int .i64 t] w (l2 P w (cj u s t f x).1 (cj u s t f x).2):=by
 exact rU
theorem FW(u:av)(s:ah)(t:Int)(N:Nat)(P:Nat→Prop)(w:World)(p:UV)(q:SV)(hU:yy u)(hS:aS u N s)(hN:N≤100000)(hu:p.Ok w u)(hs:q.Is w P s)(aY:∀b,P b→b<w.heap.size) :
  Calls prog 25 #[.agg (p.val u),.agg (q.val s),.int .i64 t] w (l2 P w (cd u s t).1 (cd u s t).2):=by
 cases htop:dE s t with
 | none=>rw[vZ htop];exact vS u s t P w p q hu hs aY htop
 | some f=>
  obtain⟨Q,x,i,n⟩:=k6.of hU hS hN htop;rw[v3 htop n];have a:x.op=1∨x.op=2∨x.op=3∨x.op=4∨x.op=5∨x.op=6∨x.op=7∨x.op=8:=by
   obtain⟨len,_,al⟩:=i.ok;rcases al with⟨ae,_⟩|⟨ae,_⟩|⟨ae,_⟩|⟨ae,_⟩|⟨ae,_⟩|⟨ae,_⟩<;>omega
  rcases a with h|h|h|h|h|h|h|h
  ·exact qb u s t f Q x N P w p q i hN (.inl h) hu hs aY
  ·exact qa u s t f Q x N P w p q i hN (.inl h) hu hs aY
  ·exact qa u s t f Q x N P w p q i hN (.inr h) hu hs aY
  ·exact qd u s t f Q x N P w p q i hN (.inl h) hu hs aY
  ·exact qd u s t f Q x N P w p q i hN (.inr h) hu hs aY
  ·exact qb u s t f Q x N P w p q i hN (.inr h) hu hs aY
  ·exact qe u s t f Q x N P w p q i hN (.inl h) hu hs aY
  ·exact qe u s t f Q x N P w p q i hN (.inr h) hu hs aY
def yH(w:World)(s:ah)(m:Nat)(e:Ending)(ac:World):Prop:=∃q:SV,e=.returned (.tuple #[.agg (q.val s),.int .i64 (m:Int)])∧q.Is ac (fun k=>w.heap.size≤k∧k<ac.heap.size) s∧Ext w ac
namespace B3
theorem gq(h:p:=by
 refine tf ?_;refine cw ?_;generalize hX:World.setCell _ _ _=X;obtain⟨bh,bo,b0⟩:=cb (w:=wr) [.slice aM ag N,.slice cq z s,.slice bL bN bX,.int .i64 (cd u S t).1.fault] (by rfl) bH a2 gD hX;have aD:(⟨aM,ag,N,cq,z,s,bL,bN,bX⟩:SV).Is X (fun b=>W.heap.size≤b∧b<X.heap.size∧b≠aN.heap.size) (cd u S t).1:=(I.aj fun b O=>b0.block b O.2.1 O.2.2.2).mono fun b O=>⟨O.1,by have:=b0.size;have:=O.2.1;omega,O.2.2.1⟩
 have a8:=aX.2.1.ak bo;have m:=aQ bo aD a8;obtain⟨br,ah,bj⟩:=bh.two;obtain⟨a6,am,aI⟩:=a8.two;have co:=bo.size;clear hX bH a2 I b0 bo aD a8 bh
 cases bx:(cd u S t).2 with
 | true=>
  have bY:=ad bx;clear bx;go_wp2_with(fail);generalize bD:World.setCell _ _ _=Z;obtain⟨bC,bn⟩:=q8 0 [.slice aM ag N,.slice cq z s,.slice bL bN bX,.int .i64 (cd u S t).1.fault] m.2.2 bD;have ba:=ai bC bn;clear bD bC bn br ah bj a6 am aI;go_roundw
  case rel=>
   have ae:Fr (fun b=>b=aN.heap.size) V Z:=Fr.trans (Fr.trans aX.1 (Fr.mono m.1 fun _ h=>h.elim)) ba.2;have hs:=aX.2.2.2.2.2.1 t aP.o;have cM:(jy u S [t]).length=1:=by
    show ((if (cd u S t).2 then [t] else [])++[]).length=1
    rw[bY.o];rfl
   refine⟨k+1,⟨aM,ag,N,cq,z,s,bL,bN,bX⟩,?_,by go_num,ab,ae,?_,?_⟩
   ·rw[hs.1,JS,cM];go_num
   ·rw[hs.2];exact ba.1
   ·rw[hs.2];have U:=ba.2.size;exact(m.2.1.aj fun b O=>ba.2.block b O.2.1 O.2.2).mono fun b O=>⟨O.1,by have:=O.2.1;omega,O.2.2⟩
  case measure=>exact aB
 | false=>
  have bY:=ad bx;clear bx;go_wp2_with(fail);clear br ah bj a6 am aI;go_roundw
  case rel=>
   have ae:Fr (fun b=>b=aN.heap.size) V X:=Fr.trans aX.1 (Fr.mono m.1 fun _ h=>h.elim);have hs:=aX.2.2.2.2.2.1 t aP.o;have cM:(jy u S [t]).length=0:=by
    show ((if (cd u S t).2 then [t] else [])++[]).length=0
    rw[bY.o];rfl
   refine⟨k+1,⟨an,sm,ay,cL,aA,az,bs,hm,hd⟩,?_,by go_num,ab,ae,?_,?_⟩
   ·rw[hs.1,JS,cM,J0]
   ·rw[hs.2,lW bY.o];exact m.2.2
   ·rw[hs.2,lW bY.o];exact(aX.2.2.1.FQ (fun b O=>O.2.1) m.1).mono fun b O=>⟨O.1,by have:=O.2.1;omega,O.2.2⟩
  case measure=>exact aB
 ):p:=h
theorem r2(h:p:=by
 have ax:=dA aF b8 (cc.1.on aF) (cc.2.cO (Fr.ext aF) aF.size) aL;have cA:=aF.size;have df:=b8.lt;obtain⟨a0,ap,ak⟩:=aL.two;clear bg aF aL b8 cc;go_wp2_with(fail);refine(IC u W ⟨GA,gn,gc,MA,mn,mc,PA,pn,pc⟩ cm.o ax.2.2.1).mono ?_;rintro e aN ⟨⟨bp,bQ,a7,TA,tn,tc,HA,a3,hc⟩,rfl,H,aG⟩;have H1:=ai H aG;have b1:=aG.size;clear H aG a0 ap ak;dsimp only[SV.val];go_upto_region 2 with(fail);generalize hV:World.alloc _ _=V;have bf:Ext aN V:=hV▸Kn.alloc _;have bV:af V aN.heap.size 30 #[.slice bp bQ a7,.slice TA tn tc,.slice HA a3 hc,.int .i64 (ew u).fault]:=hV▸Ko;have bM:=bV.lt;have aJ:(⟨bp,bQ,a7,TA,tn,tc,HA,a3,hc⟩:SV).Is V (fun b=>W.heap.size≤b∧b<V.heap.size∧b≠aN.heap.size) (ew u):=(H1.1.aj fun b O=>bf.block b (O.resolve_left fun h=>h).2 fun h=>h).mono fun b O=>by have:=O.resolve_left fun h=>h;omega
 have j:=aQ aJ bV (H1.2.trans bf);clear hV bf bV aJ;go_wp2_with(fail);go_loopw [7,8] (fun g9 cg wr=>∃(k:Nat) (q:SV),g9=.int .i64 ((jy u (ew u) (l.take k)).length:Int)∧cg=.int .i64 k∧k≤n∧Fr (fun b=>b=aN.heap.size) V wr∧af wr aN.heap.size 30 (q.val (iB u (ew u) (l.take k)))∧q.Is wr (fun b=>W.heap.size≤b∧b<wr.heap.size∧b≠aN.heap.size) (iB u (ew u) (l.take k))) (fun _ cg _=>n - (intOf cg).toNat)
 case atStart=>exact⟨0,_,rfl,rfl,ab,Kn,j.2.1,j.1⟩
 case round=>
  obtain⟨k,⟨an,sm,ay,cL,aA,az,bs,hm,hd⟩,rfl,rfl,aj,hF,y,ar⟩:=hrel;have T:Ext W wr:=Fr.low (M:=fun b=>b=aN.heap.size) (Fr.trans (Fr.mono j.2.2 fun _ h=>h.elim) hF) fun b O=>ab;have b9:=sL cm.ok (l.take k) 0 (ew u) (sx cm.ok);have aR:=GS (u:=u) (l.take k) (ew u);rw[List.length_take] at aR;have aU:(jy u (ew u) (l.take k)).length≤100000:=ab;have cf:∀t,l[k]?=some t→jy u (ew u) (l.take (k+1))=jy u (ew u) (l.take k)++jy u (iB u (ew u) (l.take k)) [t]∧iB u (ew u) (l.take (k+1))=(cd u (iB u (ew u) (l.take k)) t).1:=fun t ht=>by
   rw[a9 ht,uv,tY];exact⟨rfl,rfl⟩
  have r:k=n→iB u (ew u) (l.take k)=iB u (ew u) l∧jy u (ew u) (l.take k)=jy u (ew u) l:=fun h=>by
   rw[JY (aH ax.2.2.2.1.1)];exact⟨rfl,rfl⟩
  generalize hS:iB u (ew u) (l.take k)=S at *;generalize bN:(jy u (ew u) (l.take k))=M at *;have aX:=iE hF y ar T b9 cf r;have gi:=hF.size;have ac:=ad (show W.heap.size≤aN.heap.size∧aN.heap.size<V.heap.size∧V.heap.size≤wr.heap.size from ⟨b1,bM,hF.size⟩);have b6:=y.lt;clear b9 cf r hS bN aR;by_cases aw:k<n
  ·have aC:=ax.2.2.2.1.cO (Fr.ext T) T.size;obtain⟨b,o,t,bk,O,hx,hc⟩:=aC.int aw;subst bk;obtain⟨a0,ap,ak⟩:=(ax.2.2.2.2.ak T).two;obtain⟨a6,am,aI⟩:=y.two;have aP:=ad hx;clear hF y ar T aC hx;go_upto_region 5 with(fail);refine tX (fun _=>False) [11] (.held 0 (.held 1 (.free 2 (.free 3 (.free 4 (.held 5 (.pick [6,10] (fun i=>bif i == 6 then .free 7 (.free 8 (.free 9 (.pick [10] (fun _=>.pick [11] (fun _=>.free 12 (.stop)))))) else .pick [6] (fun _=>.free 7 (.free 8 (.free 9 (.pick [11] (fun _=>.free 12 (.stop)))))))))))))) ?_
   iterate 2 refine th ?_
   iterate 3 refine tf ?_
   refine th ?_;refine qi (P:=?oK) (ops:=?G4) (Q:=?G6) (R:=?G7) (tails:=?G8) (rest:=.pick [11] (fun _=>.free 12 (.stop))) (aa:=?G3)
    (C:=fun(cn:Nat) (Y:Value) dz=>Ext wr dz∧af dz cn 30 #[.slice none 0 0,.slice none 0 0,.slice none 0 0,.int .i64 0]∧wr.heap.size≤cn∧∃aq:SV,Y=.agg (aq.val (cd u S t).1)∧aq.Is dz (fun b=>W.heap.size≤b∧b<dz.heap.size∧b≠aN.heap.size∧b≠cn) (cd u S t).1) (fun key=>?x6) ?xZ
   case x6=>
    refine bq ?_ ?_
    ·
     refine aE rfl (fun K hK=>?_) rfl;go_simp;refine(FW u S t _ (fun b=>W.heap.size≤b∧b<wr.heap.size∧b≠aN.heap.size) wr.drew ⟨GA,gn,gc,MA,mn,mc,PA,pn,pc⟩ ⟨an,sm,ay,cL,aA,az,bs,hm,hd⟩ cm.o aX.2.2.2.2.1 (by rw[List.length_take];omega) (ax.2.2.1.on aX.2.2.2.1.drew) (aX.2.2.1.aj fun b O=>rfl) (fun b O=>O.2.1)).mono ?_;rintro e aO ⟨aq,rfl,al,aS⟩;refine dW hK (aS) ?_;clear hK K
     iterate 3 refine tf ?_
     refine ao ?_;refine eZ ?_;generalize bD:World.alloc _ _=Z;have e2:Ext aO Z:=bD▸Kn.alloc _;have bz:wr.heap.size≤aO.heap.size:=aS.size;have cu:=e2.size;have F:Ext wr Z∧af Z aO.heap.size 30 #[.slice none 0 0,.slice none 0 0,.slice none 0 0,.int .i64 0]∧wr.heap.size≤aO.heap.size∧∃cB:SV,(Value.agg (aq.val (cd u S t).1))=.agg (cB.val (cd u S t).1)∧cB.Is Z (fun b=>W.heap.size≤b∧b<Z.heap.size∧b≠aN.heap.size∧b≠aO.heap.size) (cd u S t).1:=
      ⟨(Fr.aO aS).trans e2,by rw[←bD];exact Ko,bz,aq,rfl,(al.aj fun b O=>e2.block b (O.elim (fun h=>ab) fun h=>h.2) fun h=>h).mono fun b O=>by
       have hd:wr.drew.heap.size=wr.heap.size:=rfl;have:=ac.o;rcases O with O|O<;>omega⟩
     clear bD e2 bz cu al aS;revert F;generalize aO.heap.size=cn;generalize (Value.agg (aq.val (cd u S t).1))=Y;intro F;exact key cn Y _ F
    ·
     refine eZ ?_;generalize bw:World.drew (World.alloc _ _)=c3;have e1:Ext wr c3:=bw▸(Kn.alloc _).drew;have b3:af c3 wr.heap.size 30 #[.slice none 0 0,.slice none 0 0,.slice none 0 0,.int .i64 0]:=bw▸Ko;have aK:=b3.lt;refine ao ?_;refine aE rfl (fun K hK=>?_) rfl;go_simp;refine(FW u S t _ (fun b=>W.heap.size≤b∧b<wr.heap.size∧b≠aN.heap.size) c3 ⟨GA,gn,gc,MA,mn,mc,PA,pn,pc⟩ ⟨an,sm,ay,cL,aA,az,bs,hm,hd⟩ cm.o aX.2.2.2.2.1 (by rw[List.length_take];omega) (ax.2.2.1.on (aX.2.2.2.1.trans e1)) (aX.2.2.1.FQ (fun b O=>O.2.1) e1) (fun b O=>by have:=O.2.1;omega)).mono ?_;rintro e aO ⟨aq,rfl,al,aS⟩;refine dW hK (aS) ?_;clear hK K
     iterate 3 refine tf ?_
     have bz:=aS.size;have F:Ext wr aO∧af aO wr.heap.size 30 #[.slice none 0 0,.slice none 0 0,.slice none 0 0,.int .i64 0]∧wr.heap.size≤wr.heap.size∧∃cB:SV,(Value.agg (aq.val (cd u S t).1))=.agg (cB.val (cd u S t).1)∧cB.Is aO (fun b=>W.heap.size≤b∧b<aO.heap.size∧b≠aN.heap.size∧b≠wr.heap.size) (cd u S t).1:=
      ⟨e1.trans aS,b3.ak aS,JQ _,aq,rfl,al.mono fun b O=>by
       have:=ac.o;rcases O with O|O<;>omega⟩
     clear bw e1 b3 aK bz al aS;revert F key;generalize (Value.agg (aq.val (cd u S t).1))=Y;intro key F;exact key wr.heap.size Y _ F
   case xZ=>
    rintro cn Y dz ⟨a2,bH,gD,⟨aM,ag,N,cq,z,s,bL,bN,bX⟩,rfl,I⟩;dsimp only[SV.val];obtain⟨br,ah,bj⟩:=bH.two;clear a0 ap ak a6 am aI hc;exact g8
  ·have J:k=n:=ab;have aT:=ad J;obtain⟨a6,am,aI⟩:=y.two;have au:=ax.2.1.ak T;have L:=ai au (ax.1.trans T);obtain⟨bv,bd,be⟩:=au.two;clear hF y ar T J au;go_wp2_with(fail);generalize hX:World.setCell _ _ _=Z;obtain⟨bC,bl,bn⟩:=cb (w:=w) [.slice an sm ay,.slice cL aA az,.slice bs hm hd,.int .i64 S.fault] (by rfl) L.1 L.2 ab hX;have ba:=ai bl bn;clear hX bl bn bv bd be a6 am aI;obtain⟨bv,bd,be⟩:=bC.two;refine Km (v:=.tuple #[.agg #[.slice an sm ay,.slice cL aA az,.slice bs hm hd,.int .i64 S.fault],.int .i64 (M.length:Int)]) (by simp[results,Tryz.results42,go_sem,bv]) rfl ?_;have r:=aX.2.2.2.2.2.2 aT.o;rw[←r.1,←r.2];have bu:=ba.2.size;exact⟨⟨an,sm,ay,cL,aA,az,bs,hm,hd⟩,rfl,(aX.2.2.1.aj fun b O=>ba.2.block b O.2.1 (aH O.1)).mono fun b O=>⟨by have:=O.1;omega,by have:=O.2.1;omega⟩,ba.1⟩
 ):p:=h
theorem g7(h:p:=by
 have aL:af W w.heap.size 26 #[.slice GA gn gc,.slice MA mn mc,.slice PA pn pc,.int .i64 u.main]:=bg▸(Ko).alloc _;exact r0
 ):p:=h
end B3
open B3 in
theorem HP(u:av)(l:List Int)(A:Kr)(n c:Nat)(w:World)(p:UV)(hU:yy u)(hu:p.Ok w u)(hl:cC (EF b2) 1 w w.heap.size A n l)(hn:n≤100000) :
  Calls prog 42 #[.agg (p.val u),.slice A n c] w (yH w (iB u (ew u) l) (jy u (ew u) l).length):=by
 obtain⟨GA,gn,gc,MA,mn,mc,PA,pn,pc⟩:=p;have cc:=ai hu hl;have cm:=ad hU;clear hU hu hl;dsimp only[UV.val];go_enter func42,ntmps42;exact g6
end Go.Proofs.YtbkhhfajcgkpgaaGreat

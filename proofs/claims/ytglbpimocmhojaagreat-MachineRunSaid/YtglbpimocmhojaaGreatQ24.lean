/- Part 24 of the proof. No condition of its own. -/
import Derived.Test.YtglbpimocmhojaaGreatQ23
namespace Go.Proofs.YtglbpimocmhojaaGreat
open Go.RowKit Go.Proofs.Tryz
set_option maxRecDepth 1000000
set_option maxHeartbeats 25600000
set_option linter.unusedVariables false
variable{t:Int}{fs:List al}{B:Nat}{p:Prop}{w:World}{s:aj}{f:al}{u:ay}{x:az}
theorem dy.pop{N:Nat}{q:SV}{xs:List Value}{F1 F2 bK bP:List Nat}(h:dy B w s N q xs F1 F2 bK bP){k:Nat}(bv:s.threads[k]?=some (fs++[f])):
  ∃O ch fc,q.HA=some ⟨O,0,none⟩/\k<q.hn/\O<w.heap.size/\O≠N/\B<=O/\(∀j,w.frozen? ⟨O,j,none⟩=false)/\w.cell? ⟨O,k,none⟩=some (.slice (some ⟨ch,0,none⟩) (fs.length+1) fc)/\fs.length+1<=fc/\
   ∀X,w.setCell ⟨O,k,none⟩ (.slice (some ⟨ch,0,none⟩) fs.length fc)=X->∃e d,dy B X {s with threads:=s.threads.set k fs} N q e F1 F2 bK d:=by
 obtain⟨O,ch,fc,IA,i,ic,S,l,lc,mB,cm,T,cd,co,bu,an,hl,hc,aB,c0,c1,c2,c3,ag,a,dc,hints,y⟩:=h.st.top bv;have cM:O∈F1++(F2++(bK++bP)):=by simp[co]
 refine⟨O,ch,fc,mB,cm,T,λhe=>h.ne (he▸cM),(h.lo _ cM).1,ag,hc,aB,λX hX=>?_⟩;obtain⟨e,d,cy,H⟩:=y;subst hX;have t:∀b,b∈F1++(F2++(bK++d))->b∈F1++(F2++(bK++bP)):=λb O=>by
  simp only[KM] at O ⊢;rcases O with O|O|O|O
  .exact .inl O
  .exact .inr (.inl O)
  .exact .inr (.inr (.inl O))
  .exact .inr (.inr (.inr (H b O)))
 exact⟨e,d,cy,h.o.I6 (λhe=>h.ne (he▸cM)) _,λa2=>h.ne (t _ a2),λb O=>⟨(h.lo b (t b O)).1,by simpa[World.setCell] using (h.lo b (t b O)).2⟩,h.go⟩
theorem dy.drew{B:Nat}{w:World}{s:aj}{N:Nat}{q:SV}{xs:List Value}{F1 F2 bK bP:List Nat}(h:dy B w s N q xs F1 F2 bK bP):dy B w.drew s N q xs F1 F2 bK bP:=h.ai Ll.drew
theorem xH(h:s.threads[t.toNat]?=some (fs++[f])):ua s t={s with threads:=s.threads.set t.toNat fs}:=by
 unfold ua;rw[k1 h,ks]
theorem qz(h:eg s t=some f)(hx:dW u s t=some x):b9 u s t=b2 u s t f x:=by
 unfold b9;rw[h,hx]
theorem qy(h:eg s t=none):b9 u s t=(s,false):=by
 unfold b9;rw[h]
theorem xM(h:x.op=7):b2 u s t f x=(bs s t {f with pc:=x.target},true):=by
 unfold b2;rw[if_neg ad,if_neg ad,if_neg ad,if_pos h]
theorem xN(h:x.op=8):b2 u s t f x=(ua s t,true):=by
 unfold b2;rw[if_neg ad,if_neg ad,if_neg ad,if_neg ad]
namespace Ck
theorem AJ(h:p:=by
 have au:((fs.length:Nat):Int)<=(fc:Int):=ad
 iterate 3 refine pf ?_
 refine ax rfl (λK hK=>?_);go_simp;refine dO hK ?_;clear hK K;refine aE ?_;generalize hX:World.setCell _ _ _=Y;obtain⟨aJ,av,n⟩:=ap.o Y hX;have ar:=cJ hX;have ds:Ext W Y:=Fr.low (M:=λb=>b=O) (Fr.trans (Fr.mono cz.2.1 λ_ h=>h.elim) ar) λb O=>ad;have G:=ae n;clear hX n ar e0 a6 aP d0 aL aM a4 dv;have aW:=ah (ag.2.2.2.1.ai ds) (ag.1.trans ds);obtain⟨bl,aA,aO⟩:=aW.1.two;obtain⟨e0,a6,aP⟩:=G.o.o.two;clear ds;go_wp2_with(fail);generalize hX:World.setCell _ _ _=Z;obtain⟨bh,a9,bd⟩:=bA (w:=w) [.slice bL bV bc,.slice ab tn L,.slice (some ⟨O,0,none⟩) hn a3,.int .i64 s.fault] (by rfl) aW.1 aW.2 ad hX;have bf:=ah a9 bd;clear hX a9 bd bl aA aO e0 a6 aP;obtain⟨bl,aA,aO⟩:=bh.two;refine Lk (v:=.tuple #[.agg #[.slice bL bV bc,.slice ab tn L,.slice (some ⟨O,0,none⟩) hn a3,.int .i64 s.fault],.bool true]) (by simp[results,Tryz.results9,go_sem,bl]) rfl ?_;rw[bT.o];show cR mG w (ua s t) true _ _
 exact gS (Q:=ua s t) (q:=⟨bL,bV,bc,ab,tn,L,(some ⟨O,0,none⟩),hn,a3⟩) G.o bf.2.drew (λb O=>ad) ad bf.1.drew (by rw[xH bU.2.1])
 ):p:=h
theorem dB(h:p:=by
 generalize hX:World.setCell _ _ _=Y;have n:dy V.heap.size Y {s with threads:=s.threads.set t.toNat (fs++[{f with pc:=x.target}])} bX.heap.size ⟨bL,bV,bc,ab,tn,L,b1,hn,a3⟩ xs F1 F2 bK bP:=hX▸P.pc x.target;have ar:=cJ hX;have dG:=P.ge;have ds:Ext W Y:=Fr.low (M:=λb=>b=c1) (Fr.trans (Fr.mono cj.o λ_ h=>h.elim) ar) λb O=>ad;have G:=ae n;clear hX n ar ca g2 cT P;have aW:=ah (ag.2.2.2.1.ai ds) (ag.1.trans ds);obtain⟨bl,aA,aO⟩:=aW.1.two;obtain⟨e0,a6,aP⟩:=G.o.o.two;clear ds;go_wp2_with(fail);generalize hX:World.setCell _ _ _=Z;obtain⟨bh,a9,bd⟩:=bA (w:=w) [.slice bL bV bc,.slice ab tn L,.slice b1 hn a3,.int .i64 s.fault] (by rfl) aW.1 aW.2 ad hX;have bf:=ah a9 bd;clear hX a9 bd bl aA aO e0 a6 aP;obtain⟨bl,aA,aO⟩:=bh.two;refine Lk (v:=.tuple #[.agg #[.slice bL bV bc,.slice ab tn L,.slice b1 hn a3,.int .i64 s.fault],.bool true]) (by simp[results,Tryz.results9,go_sem,bl]) rfl ?_;rw[bT.o];show cR mG w (bs s t {f with pc:=x.target}) true _ _
 exact gS (Q:=bs s t {f with pc:=x.target}) (q:=⟨bL,bV,bc,ab,tn,L,b1,hn,a3⟩) G.o bf.2 (λb O=>ad) ad bf.1 (by rw[dZ bU.2.1])
 ):p:=h
end Ck
open Ck in
theorem GH(u:ay)(s:aj)(t:Int)(N:Nat)(w:World)(p:UV)(q:SV)(hU:tq u)(hS:aV u N s)(hN:N<=100000)(hu:p.Ok w u)(hs:q.Ok w s) :
  Calls prog 9 #[.agg (p.val u),.agg (q.val s),.int .i64 t] w (cR mG w (b9 u s t).1 (b9 u s t).2):=by
 have HA:=aD hU hS (hS.small hU.ok hN);have cc:=ah hu hs;clear hU hS hu hs;obtain⟨GA,gn,gc,MA,mn,mc,PA,pn,pc⟩:=p;obtain⟨bR,bV,bC,TA,tn,tc,be,hn,hc⟩:=q;dsimp only[UV.val,SV.val];go_enter func9,ntmps9;go_upto_region 1 with(fail);generalize ba:World.alloc _ _=W;have aw:=lF ba;have bD:=jo ba;have b6:=ir ba;have cA:=jq ba;have ag:=cS aw bD b6 cA (cc.1.on aw) (cc.2.on aw);have cZ:=aw.size;have dr:=cA.lt;obtain⟨a0,ai,af⟩:=bD.two;obtain⟨a8,am,aF⟩:=b6.two;clear ba aw bD b6 cA cc
 cases htop:eg s t with
 | none=>
  have bT:=ae (qy (u:=u) htop);have al:=ae htop;clear htop;go_wp2_with(fail);refine(tQ u s t W ⟨GA,gn,gc,MA,mn,mc,PA,pn,pc⟩ ⟨bR,bV,bC,TA,tn,tc,be,hn,hc⟩ ag.2.2.2.2.2 al.o).mono ?_;rintro e aS ⟨rfl,aN⟩;have bu:=ae aN;clear a0 ai af a8 am aF;go_upto_region 2 with(fail);generalize hV:World.alloc _ _=V;have bm:Ext W V:=hV▸aN.alloc _;have dk:=bm.size;obtain⟨a8,am,aF⟩:=(ag.2.2.1.ai bm).two;have bN:=ae bm;clear hV bm aN;go_wp2_with(fail);refine(sN s ⟨bR,bV,bC,TA,tn,tc,be,hn,hc⟩ V (ag.2.2.2.2.2.on bN.o) HA.2.2).mono ?_;rintro e bX ⟨⟨bL,cr,bc,ab,m,L,b1,co,a3⟩,rfl,I,a7⟩;have bY:=I.mono (c6:=λk=>mG k\/(V.heap.size<=k/\k<bX.heap.size)) λb O=>.inr O;clear I a8 am aF;have aW:=ah ((ag.2.2.2.1.ai bN.o).ai a7) ((ag.1.trans bN.o).trans a7);have c5:=ae bY;clear bY a7;obtain⟨bl,aA,aO⟩:=aW.1.two;go_wp2_with(fail);generalize hX:World.setCell _ _ _=Z;obtain⟨bh,a9,bd⟩:=bA (w:=w) [.slice bL cr bc,.slice ab m L,.slice b1 co a3,.int .i64 s.fault] (by rfl) aW.1 aW.2 ad hX;have bf:=ah a9 bd;clear hX a9 bd bl aA aO;obtain⟨bl,aA,aO⟩:=bh.two;refine Lk (v:=.tuple #[.agg #[.slice bL cr bc,.slice ab m L,.slice b1 co a3,.int .i64 s.fault],.bool false]) (by simp[results,Tryz.results9,go_sem,bl]) rfl ?_;rw[bT.o];show cR mG w s false _ _
  exact ew (Q:=s) (q:=⟨bL,cr,bc,ab,m,L,b1,co,a3⟩) c5.o bf.2 (λb O=>ad) ad bf.1
 | some f=>
  obtain⟨cq,x,i,H⟩:=jO.of HA.1 HA.2.1 hN htop;have S:=ae (qz htop H);have l:=ae i;have r:x.op=1\/x.op=2\/x.op=3\/x.op=4\/x.op=5\/x.op=6\/x.op=7\/x.op=8:=by
   exact y9
  have ak:=ae r;clear htop H i r;go_wp2_with(fail);refine(tR u s t f cq x W ⟨GA,gn,gc,MA,mn,mc,PA,pn,pc⟩ ⟨bR,bV,bC,TA,tn,tc,be,hn,hc⟩ ⟨l.sm,l.ht,l.hp,l.hx,l.hF.proc,l.pc.1,l.il,l.kl,ag.2.2.2.2.1,ag.2.2.2.2.2⟩).mono ?_;rintro e aS ⟨⟨eo,en,es,EA,em,ec,QA,qm,qc,dg,j,c9,KA,dj,kc⟩,rfl,bI,aN⟩;have dl:=ah bI aN;clear a0 ai af a8 am aF bI aN;dsimp only[IV.val];go_upto_region 2 with(fail);generalize hV:World.alloc _ _=V;have b7:=aX hV;have du:=aK hV;have bm:Ext W V:=dl.2.trans b7;have dk:=bm.size;have ce:=du.lt;have bN:=ae bm;have dD:=ae (dl.1.on b7);obtain⟨a0,ai,af⟩:=(ag.2.1.ai bm).two;obtain⟨a8,am,aF⟩:=(ag.2.2.1.ai bm).two;obtain⟨d0,aL,aM⟩:=du.two;have bJ:=ae du;clear hV bm b7 du dl;have dF:w.heap.size+2<V.heap.size:=ad;rcases ak.o with h|h|h|h|h|h|h|h
  all_goals
   first
    | have q1:(x.op == 1)=true:=by simpa using h
    | have q1:(x.op == 1)=false:=by simp;omega
   first
    | have cI:(x.op == 2)=true:=by simpa using h
    | have cI:(x.op == 2)=false:=by simp;omega
   first
    | have dd:(x.op == 3)=true:=by simpa using h
    | have dd:(x.op == 3)=false:=by simp;omega
   first
    | have df:(x.op == 4)=true:=by simpa using h
    | have df:(x.op == 4)=false:=by simp;omega
   first
    | have q5:(x.op == 5)=true:=by simpa using h
    | have q5:(x.op == 5)=false:=by simp;omega
   first
    | have di:(x.op == 6)=true:=by simpa using h
    | have di:(x.op == 6)=false:=by simp;omega
   first
    | have q7:(x.op == 7)=true:=by simpa using h
    | have q7:(x.op == 7)=false:=by simp;omega
   first
    | have dI:(x.op == 8)=true:=by simpa using h
    | have dI:(x.op == 8)=false:=by simp;omega
  iterate 6
   ·
    have R:=ae h;clear h;go_wp2_with(fail)
    first
     | refine(vX u s t f cq x N V ⟨bR,bV,bC,TA,tn,tc,be,hn,hc⟩ ⟨eo,en,es,EA,em,ec,QA,qm,qc,dg,j,c9,KA,dj,kc⟩ l.o (aC R.o) (ag.2.2.2.2.2.on bN.o) dD.o).mono ?_
     | refine(Io u s t f cq x N V ⟨GA,gn,gc,MA,mn,mc,PA,pn,pc⟩ ⟨bR,bV,bC,TA,tn,tc,be,hn,hc⟩ ⟨eo,en,es,EA,em,ec,QA,qm,qc,dg,j,c9,KA,dj,kc⟩ l.o (aC R.o) (ag.2.2.2.2.1.on bN.o) (ag.2.2.2.2.2.on bN.o) dD.o).mono ?_
     | refine(Iq u s t f cq x N V ⟨GA,gn,gc,MA,mn,mc,PA,pn,pc⟩ ⟨bR,bV,bC,TA,tn,tc,be,hn,hc⟩ ⟨eo,en,es,EA,em,ec,QA,qm,qc,dg,j,c9,KA,dj,kc⟩ l.o hN (aC R.o) (ag.2.2.2.2.1.on bN.o) (ag.2.2.2.2.2.on bN.o) dD.o).mono ?_
    have z:=ae S.o;generalize b2 u s t f x=az at *;obtain⟨Q,b⟩:=az;rintro e bX ⟨⟨bL,cr,bc,ab,m,L,b1,co,a3⟩,rfl,bY,a7⟩;clear a0 ai af a8 am aF d0 aL aM;have aW:=ah ((ag.2.2.2.1.ai bN.o).ai a7) ((ag.1.trans bN.o).trans a7);have c5:=ae bY;clear bY a7;obtain⟨bl,aA,aO⟩:=aW.1.two;go_wp2_with(fail);generalize hX:World.setCell _ _ _=Z;obtain⟨bh,a9,bd⟩:=bA (w:=w) [.slice bL cr bc,.slice ab m L,.slice b1 co a3,.int .i64 Q.fault] (by rfl) aW.1 aW.2 ad hX;have bf:=ah a9 bd;clear hX a9 bd bl aA aO;obtain⟨bl,aA,aO⟩:=bh.two;refine Lk (v:=.tuple #[.agg #[.slice bL cr bc,.slice ab m L,.slice b1 co a3,.int .i64 Q.fault],.bool b]) (by simp[results,Tryz.results9,go_sem,bl]) rfl ?_;rw[z.o];show cR mG w Q b _ _
    exact ew (Q:=Q) (q:=⟨bL,cr,bc,ab,m,L,b1,co,a3⟩) c5.o bf.2 (λb O=>ad) ad bf.1
  ·
   have bT:=ae (S.trans (xM h));clear h;go_wp2_with(fail);refine(fH s bR TA be bV bC tn tc hn hc V (ag.2.2.2.2.2.on bN.o).at_ HA.2.2).mono ?_;rintro e bX ⟨bL,bc,ab,L,b1,a3,xs,F1,F2,bK,bP,rfl,cy,br,a7⟩;have bW:=aD cy br a7;have cO:=a7.size;clear cy br a7 a8 am aF a0 ai af d0 aL aM;go_upto_region 15 with(fail);generalize hU:World.alloc _ _=U;have cl:=aX hU;have cY:=aK hU;have hOut:dy V.heap.size U s bX.heap.size ⟨bL,bV,bc,ab,tn,L,b1,hn,a3⟩ xs F1 F2 bK bP:=
    ⟨bW.1.ak λb O=>cl.block b (bW.2.1 b O).2 λh=>h,cY,λO=>by have:=(bW.2.1 _ O).2;omega,λb O=>⟨(bW.2.1 b O).1,by have:=(bW.2.1 b O).2;have:=cl.size;omega⟩,cO⟩
   have aT:Ext V U:=bW.2.2.trans cl;have bi:=bN.trans aT;obtain⟨ao,db,cu,fs,bv,cd⟩:=l.th;have qK:hn=s.threads.length:=by have:=ag.2.2.2.2.2.at_.h.1;simpa using this.symm
   have dx:t<(hn:Int):=ad;have bU:=aD ao bv cd;have cz:=aD hOut bi aT;obtain⟨e0,a6,aP⟩:=hOut.o.two;clear hU cl cY hOut aT bi ao cu bv cd qK;obtain⟨c1,dt,i2,c4,de,dn,dh,c0,cg,aG,J⟩:=cz.1.top bU.2.1 db bU.1 bU.2.2;have aa:=ah aG J;obtain⟨d0,aL,aM⟩:=(show aq U aS.heap.size 58 _ from bJ.ai cz.2.2).two;clear aG J c0 cg;go_upto_region 16 with(fail);refine eK (λ_=>False) [(0,0),(1,3),(3,3),(4,0),(2,1),(5,3),(6,3),(7,2)] ?_;refine ph ?_
   iterate 2 refine pf ?_
   refine ph ?_;refine aI rfl (λK hK=>?_);go_simp;refine(aa.1 U.drew Ll.drew).mono ?_;rintro e cL ⟨rfl,cB⟩;have P:=ae (aa.2 cL (Fr.aF cB));have cj:=ae (cz.2.1.trans (Fr.aF cB));refine dz hK (cB) ?_;clear hK K;clear cB e0 a6 aP d0 aL aM
   iterate 2 refine pf ?_
   have ca:=P.c1;have g2:=P.fz;have cT:=P.lt;exact eP
  ·
   have bT:=ae (S.trans (xN h));clear h;go_wp2_with(fail);refine(fH s bR TA be bV bC tn tc hn hc V (ag.2.2.2.2.2.on bN.o).at_ HA.2.2).mono ?_;rintro e bX ⟨bL,bc,ab,L,b1,a3,xs,F1,F2,bK,bP,rfl,cy,br,a7⟩;have bW:=aD cy br a7;have cO:=a7.size;clear cy br a7 a8 am aF a0 ai af d0 aL aM;go_upto_region 15 with(fail);generalize hU:World.alloc _ _=U;have cl:=aX hU;have cY:=aK hU;have hOut:dy V.heap.size U s bX.heap.size ⟨bL,bV,bc,ab,tn,L,b1,hn,a3⟩ xs F1 F2 bK bP:=
    ⟨bW.1.ak λb O=>cl.block b (bW.2.1 b O).2 λh=>h,cY,λO=>by have:=(bW.2.1 _ O).2;omega,λb O=>⟨(bW.2.1 b O).1,by have:=(bW.2.1 b O).2;have:=cl.size;omega⟩,cO⟩
   have aT:Ext V U:=bW.2.2.trans cl;have bi:=bN.trans aT;obtain⟨ao,db,cu,fs,bv,cd⟩:=l.th;have qK:hn=s.threads.length:=by have:=ag.2.2.2.2.2.at_.h.1;simpa using this.symm
   have dx:t<(hn:Int):=ad;have bU:=aD ao bv cd;have cz:=aD hOut bi aT;obtain⟨e0,a6,aP⟩:=hOut.o.two;clear hU cl cY hOut aT bi ao cu bv cd qK;obtain⟨O,ch,fc,mB,cm,T,bQ,aH,dv,a4,aB,y⟩:=cz.1.pop bU.2.1;simp only at mB;subst mB;have ap:=ae y;have dp:=bU.2.2;obtain⟨d0,aL,aM⟩:=(show aq U aS.heap.size 58 _ from bJ.ai cz.2.2).two;clear y;go_upto_region 18 with(fail);exact AI
def FN(P:Nat->Prop)(w:World)(s:aj)(e:Ending)(ab:World):Prop:=∃q:SV,e=.returned (.agg (q.val s))/\q.Is ab (λk=>P k\/(w.heap.size<=k/\k<ab.heap.size)) s/\Ext w ab
theorem xE(u:ay):dJ u=⟨u.globals,List.replicate (own u.af).length ⟨0,0⟩,[[da u u.main [] []]],0⟩:=rfl
theorem cx.below{α:Type}{f:α->List Value}{sz:Nat}{ab:World}{n:Nat}{A:Lp}{l:List α}(h:cx (EF f) sz w B A n l)(ap:∀b,b<B->ab.heap[b]?=w.heap[b]?):cx (EF f) sz ab B A n l:=by
 refine⟨h.1,λhn=>?_⟩;obtain⟨b,o,bw,O,hc⟩:=h.2 hn;refine⟨b,o,bw,O,λk x hx=>?_⟩;obtain⟨cs,he,hl,bi⟩:=hc k x hx;exact⟨cs,he,hl,λj v bI=>(World.cell?_of_block (w:=w) (ap b O)).trans (bi j v bI)⟩
theorem Fe(A:Lp)(n c:Nat)(X:List bG)(w:World)(h:cx (EF gy) 3 w w.heap.size A n X)(hX:m1 X) :
  Calls prog 25 #[.slice A n c] w λr ab=>∃I aJ,r=.returned (.slice I (own X).length aJ)/\ab.ownsRow w.heap.size 107 2 (.slice I (own X).length aJ) (own X).length ((List.replicate (own X).length ⟨0,0⟩).flatMap bH)/\Below w.heap.size w ab:=by
 go_enter func25,ntmps25;go_wp2_with(fail);refine(hZ A n c X w h hX).mono ?_;rintro e aS ⟨rfl,O⟩;have Q:=eu X;have a:=cA hX;generalize hN:(own X).length=N at *;rw[<-Q];clear Q;have d3:=λW=>run_mk kN .i64 .i64 N ad ad W;go_wp2;go_ret;have b2:=O.size;have aB:=wg (e:=107) (f:=bH) (x:=⟨0,0⟩) (zc:=#[.int .i64 0,.int .i64 0]) (sz:=2) rfl rfl ad N ad (w:=aS) (base:=w.heap.size) b2;rw[hN];exact⟨_,_,rfl,aB,O.alloc b2 _⟩
namespace Cl
theorem dB(h:p:=by
 generalize hX:World.setCell _ _ _=Z;have T:Ext w V:=((ag.1.trans a4.o).trans bW.2.1).trans m.1;obtain⟨bh,a9,bd⟩:=bA (w:=w) [.slice aZ gn bc,.slice aV (own u.af).length L,.slice (some ⟨bX.heap.size+1,0,none⟩) 1 1,.int .i64 0] (by rfl) al.o T ad hX;have bf:=ah a9 bd;clear hX a9 bd bl aA aO T;obtain⟨bl,aA,aO⟩:=bh.two;clear bh;go_wp2_with(fail);refine Lk (v:=.agg #[.slice aZ gn bc,.slice aV (own u.af).length L,.slice (some ⟨bX.heap.size+1,0,none⟩) 1 1,.int .i64 0]) (by simp[results,Tryz.results6,go_sem,bl]) rfl ?_;have cQ:=bf.2.size;have i:∀b,b<V.heap.size->b≠w.heap.size+1->Z.heap[b]?=V.heap[b]?:=λb ac au=>bf.2.block b ac au;have ak:w.heap.size+1<W.heap.size:=dr;have cv:∀b,aS.heap.size<=b->b<V.heap.size->Z.heap[b]?=V.heap[b]?:=λb ac au=>i b au ad;have a5:Own Z 3 1 aZ gn bc (u.globals.map dc) (bq aZ gn bc):=H1.1.ak λb O=>by
  have:=H1.2.1 b O;have cD:W.drew.heap.size=W.heap.size:=rfl;exact(i b ad ad).trans ((m.1.block b ad λh=>h).trans ((bW.2.1.block b ad λh=>h).trans (bJ.2.2.block b ad λh=>h)))
 have ck:gn=u.globals.length:=by have:=(ag.2.2).at_.g.1;rw[KH] at this;exact this.symm
 have cD:W.drew.heap.size=W.heap.size:=rfl;have hG:Sl Z (λk=>False\/(w.heap.size<=k/\k<Z.heap.size)) aZ gn (u.globals.map D.i):=a5.sl (ct _) (by simp[ck]) λb O=>by
  have:=H1.2.1 b O;exact .inr ⟨ad,ad⟩
 have n:Own Z 107 2 aV (own u.af).length L ((List.replicate (own u.af).length ⟨0,0⟩).flatMap bH) (bq aV (own u.af).length L):=bJ.1.ak λb O=>by
  have:=bJ.2.1 b O;exact(i b ad ad).trans ((m.1.block b ad λh=>h).trans (bW.2.1.block b ad λh=>h))
 have hT:Sl Z (λk=>False\/(w.heap.size<=k/\k<Z.heap.size)) aV (own u.af).length ((List.replicate (own u.af).length ⟨0,0⟩).map lh):=n.sl (dw _) (by simp) λb O=>by
  have:=bJ.2.1 b O;exact .inr ⟨ad,ad⟩
 have s:=m.2.1.on bf.2 ad;have F:=m.2.2.on bf.2 ad;have H:=m.2.1.lt;have l:(er R).rep Z (λk=>False\/(w.heap.size<=k/\k<Z.heap.size)) [.int .i64 R.proc,.int .i64 R.pc,.slice FA cP bk,.slice dC fl bx]:=D.aL (λb O=>.inr ⟨by have:=O.1;omega,by have:=O.2;omega⟩) _ _ (D.aS (λb O=>(i b (aC O.2) (aC O.1)).trans (m.1.block b O.2 λh=>h)) _ _ bW.1);have hF:Sl Z (λk=>False\/(w.heap.size<=k/\k<Z.heap.size)) (some ⟨bX.heap.size,0,none⟩) 1 ([R].map er):=⟨rfl,λ_=>⟨bX.heap.size,0,_,rfl,.inr ⟨ad,ad⟩,D.bj.2 l,λj v bi=>by
  rw[KV,s.cell];simpa using bi⟩⟩
 have hH:Sl Z (λk=>False\/(w.heap.size<=k/\k<Z.heap.size)) (some ⟨bX.heap.size+1,0,none⟩) 1 ([[R]].map jP):=⟨rfl,λ_=>⟨bX.heap.size+1,0,[.slice (some ⟨bX.heap.size,0,none⟩) 1 1],rfl,.inr ⟨ad,ad⟩,D.bj.2 (eS.2 ⟨_,1,1,rfl,KD _,hF⟩),λj v bi=>by
  rw[KV,F.cell];simpa using bi⟩⟩
 have y:dJ u=⟨u.globals,List.replicate (own u.af).length ⟨0,0⟩,[[R]],0⟩:=by rw[xE,bW.2.2]
 rw[y];have aH:(⟨aZ,gn,bc,aV,(own u.af).length,L,some ⟨bX.heap.size+1,0,none⟩,1,1⟩:SV).Is Z (λk=>False\/(w.heap.size<=k/\k<Z.heap.size)) ⟨u.globals,List.replicate (own u.af).length ⟨0,0⟩,[[R]],0⟩:=⟨⟨hG,hT,hH⟩,a5.cap,n.cap,KD _⟩
 exact⟨⟨aZ,gn,bc,aV,(own u.af).length,L,some ⟨bX.heap.size+1,0,none⟩,1,1⟩,rfl,aH,bf.1⟩
 ):p:=h
theorem se(h:p:=by
 refine pf ?_;refine l4 (λV=>Ext bX V/\aq V bX.heap.size 75 #[.int .i64 R.proc,.int .i64 R.pc,.slice FA cP bk,.slice dC fl bx]/\aq V (bX.heap.size+1) 79 #[.slice (some ⟨bX.heap.size,0,none⟩) 1 1]) ⟨(Ll.alloc _).alloc _,(Lm).alloc _,aq.gz _ _ _ (by simp)⟩ (λV hV=>?_);have m:=ae hV;have z:=aW.ai hV.1;have dk:=hV.1.size;have G:=hV.2.2.lt;clear hV;obtain⟨bl,aA,aO⟩:=z.two;have al:=ae z;clear z;exact eP
 ):p:=h
theorem lJ(h:p:=by
 have ag:=aD aw cA (cc.on aw);have cZ:=aw.size;have dr:=cA.lt;obtain⟨a0,ai,af⟩:=aR.two;clear ba aw aR cA cc;refine eK (λ_=>False) [(0,3),(1,0),(3,3),(4,0),(6,0),(7,3),(8,0),(2,1),(5,1),(9,2),(10,2),(11,3),(12,2),(13,3),(14,2)] ?_;refine pf ?_;refine ph ?_;refine pf ?_
 iterate 2 refine ph ?_
 refine pf ?_;refine ph ?_;refine aI rfl (λK hK=>?_);go_simp;refine(Sl.lQ (ag.2.2.on (Fr.refl _ W).drew).at_.g ry).mono ?_;rintro r aS ⟨aZ,bc,rfl,E,aJ,ar⟩;have H1:=aD E aJ (Fr.aF ar);refine dz hK (ar) ?_;clear hK K;clear E aJ ar;refine aI rfl (λK hK=>?_);go_simp;refine(Fe MA mn mc u.af aS (ag.2.2.on H1.2.2).at_.m.om cz.1.ok.yp).mono ?_;rintro r aT ⟨aV,L,rfl,o,bg⟩;have f:Own aT 107 2 aV (own u.af).length L ((List.replicate (own u.af).length ⟨0,0⟩).flatMap bH) (bq aV (own u.af).length L):=⟨g9 o (KZ _),rfl⟩
 have g:∀b∈bq aV (own u.af).length L,aS.heap.size<=b/\b<aT.heap.size:=λb O=>o.lt b (by simpa using O);have bJ:=aD f g (Fr.of (M:=λ_=>False) bg);have bR:=bg.size;refine dz hK (Fr.of bg) ?_;clear hK K;clear o f g bg;have a3:Ext W aT:=H1.2.2.trans bJ.2.2;have bN:=a3.size;have cp:=H1.2.2.size;have a4:=ae a3;refine ax rfl (λK hK=>?_);go_simp;refine(mframe u u.main dQ [] [] none none 0 0 0 0 aT ⟨GA,gn,gc,MA,mn,mc,PA,pn,pc⟩ (ag.2.2.on a3) cz.2.1 cz.2.2.1 (by have:=cz.2.2.2.ints;simp;omega) cz.2.2.2.ints.2.2 (by simp) (Sl.bN _) (Sl.bN _)).mono ?_;rintro e bX ⟨FA,cP,bk,dC,fl,bx,rfl,b5,a7⟩;generalize cX:da u u.main [] []=R at *;have bW:=aD b5 a7 cX;have cO:=a7.size;have cG:=(ag.2.1.ai a3).ai a7;clear b5 a7 cX a3 a0 ai af;have aW:=ae cG;clear cG;refine dO hK ?_;clear hK K;exact sd
 ):p:=h
end Cl
open Cl in
theorem Ir(u:ay)(w:World)(p:UV)(hU:tq u)(hu:p.Ok w u) :
  Calls prog 6 #[.agg (p.val u)] w (FN (λ_=>False) w (dJ u)):=by
 obtain⟨GA,gn,gc,MA,mn,mc,PA,pn,pc⟩:=p;obtain⟨dQ,bB,a1,an,ce⟩:=hU.ok.main;have cY:=hU.ok.procs dQ (KG a1);have ry:gn<=100000:=by have ac:=hu.at_.g.1;have au:=hU.ok.nY;rw[KH] at ac;have aU:u.globals.length=gn:=ac;omega
 have cz:=bL hU bB a1 cY;have cc:=ae hu;clear hU bB a1 an ce cY hu;dsimp only[UV.val];go_enter func6,ntmps6;exact lI
end Go.Proofs.YtglbpimocmhojaaGreat

/- Part 23 of the proof. No condition of its own. -/
import Derived.Test.YtkhnkojkplbioaaGreatQ22
namespace Go.Proofs.YtkhnkojkplbioaaGreat
open Go.RowKit Go.Proofs.Tryz
set_option maxRecDepth 1000000
set_option maxHeartbeats 25600000
set_option linter.unusedVariables false
variable{t:Int}{fs:List ak}{B:Nat}{p:Prop}{w:World}{s:ai}{f:ak}{u:ay}{x:az}
theorem dC.pop{N:Nat}{q:SV}{xs:List Value}{F1 F2 bT b2:List Nat}(h:dC B w s N q xs F1 F2 bT b2){k:Nat}(bA:s.threads[k]?=some (fs++[f])):
  ∃O cj fc,q.HA=some ⟨O,0,none⟩/\k<q.hn/\O<w.heap.size/\O≠N/\B<=O/\(∀j,w.frozen? ⟨O,j,none⟩=false)/\w.cell? ⟨O,k,none⟩=some (.slice (some ⟨cj,0,none⟩) (fs.length+1) fc)/\fs.length+1<=fc/\
   ∀X,w.setCell ⟨O,k,none⟩ (.slice (some ⟨cj,0,none⟩) fs.length fc)=X->∃e d,dC B X {s with threads:=s.threads.set k fs} N q e F1 F2 bT d:=by
 obtain⟨O,cj,fc,IA,i,ic,S,l,lc,mO,bH,T,cg,aV,b1,an,hl,hc,aB,c0,c1,c2,c3,bI,a,db,hints,y⟩:=h.st.top bA;have bz:O∈F1++(F2++(bT++b2)):=by simp[aV]
 refine⟨O,cj,fc,mO,bH,T,λhe=>h.ne (he▸bz),(h.lo _ bz).1,bI,hc,aB,λX hX=>?_⟩;obtain⟨e,d,ch,H⟩:=y;subst hX;have t:∀b,b∈F1++(F2++(bT++d))->b∈F1++(F2++(bT++b2)):=λb O=>by
  simp only[Lt] at O ⊢;rcases O with O|O|O|O
  .exact .inl O
  .exact .inr (.inl O)
  .exact .inr (.inr (.inl O))
  .exact .inr (.inr (.inr (H b O)))
 exact⟨e,d,ch,h.o.JN (λhe=>h.ne (he▸bz)) _,λa9=>h.ne (t _ a9),λb O=>⟨(h.lo b (t b O)).1,by simpa[World.setCell] using (h.lo b (t b O)).2⟩,h.go⟩
theorem dC.drew{B:Nat}{w:World}{s:ai}{N:Nat}{q:SV}{xs:List Value}{F1 F2 bT b2:List Nat}(h:dC B w s N q xs F1 F2 bT b2):dC B w.drew s N q xs F1 F2 bT b2:=h.aj LW.drew
theorem yl(h:s.threads[t.toNat]?=some (fs++[f])):qJ s t={s with threads:=s.threads.set t.toNat fs}:=by
 unfold qJ;rw[lh h,kC]
theorem q2(h:de s t=some f)(hx:cU u s t=some x):aV u s t=bI u s t f x:=by
 unfold aV;rw[h,hx]
theorem q0(h:de s t=none):aV u s t=(s,false):=by
 unfold aV;rw[h]
theorem yq(h:x.op=7):bI u s t f x=(aT s t {f with pc:=x.target},true):=by
 unfold bI;rw[if_neg ad,if_neg ad,if_neg ad,if_pos h]
theorem yr(h:x.op=8):bI u s t f x=(qJ s t,true):=by
 unfold bI;rw[if_neg ad,if_neg ad,if_neg ad,if_neg ad]
namespace C3
theorem Bt(h:p:=by
 have ap:((fs.length:Nat):Int)<=(fc:Int):=ad
 iterate 3 refine pf ?_
 refine ax rfl (λK hK=>?_);go_simp;refine dP hK ?_;clear hK K;refine aC ?_;generalize hX:World.setCell _ _ _=Y;obtain⟨aJ,au,n⟩:=al.o Y hX;have ar:=cO hX;have bn:Ext W Y:=Fr.low (M:=λb=>b=O) (Fr.trans (Fr.mono cD.2.1 λ_ h=>h.elim) ar) λb O=>ad;have H:=ae n;clear hX n ar e0 a6 aP d0 aL aM ck c1;have a3:=ag (ah.2.2.2.1.aj bn) (ah.1.trans bn);obtain⟨bl,aA,aO⟩:=a3.1.two;obtain⟨e0,a6,aP⟩:=H.o.o.two;clear bn;go_wp2_with(fail);generalize hX:World.setCell _ _ _=Z;obtain⟨bk,bd,bg⟩:=bw (w:=w) [.slice bF bW a5,.slice ab tn L,.slice (some ⟨O,0,none⟩) hn aZ,.int .i64 s.fault] (by rfl) a3.1 a3.2 ad hX;have bh:=ag bd bg;clear hX bd bg bl aA aO e0 a6 aP;obtain⟨bl,aA,aO⟩:=bk.two;refine LU (v:=.tuple #[.agg #[.slice bF bW a5,.slice ab tn L,.slice (some ⟨O,0,none⟩) hn aZ,.int .i64 s.fault],.bool true]) (by simp[results,Tryz.results18,go_sem,bl]) rfl ?_;rw[bX.o];show cV mW w (qJ s t) true _ _
 exact gX (Q:=qJ s t) (q:=⟨bF,bW,a5,ab,tn,L,(some ⟨O,0,none⟩),hn,aZ⟩) H.o bh.2.drew (λb O=>ad) ad bh.1.drew (by rw[yl bZ.2.1])
 ):p:=h
theorem dE(h:p:=by
 generalize hX:World.setCell _ _ _=Y;have n:dC V.heap.size Y {s with threads:=s.threads.set t.toNat (fs++[{f with pc:=x.target}])} b6.heap.size ⟨bF,bW,a5,ab,tn,L,bO,hn,aZ⟩ xs F1 F2 bT b2:=hX▸P.pc x.target;have ar:=cO hX;have dG:=P.ge;have bn:Ext W Y:=Fr.low (M:=λb=>b=bV) (Fr.trans (Fr.mono cc.o λ_ h=>h.elim) ar) λb O=>ad;have H:=ae n;clear hX n ar cb g2 cT P;have a3:=ag (ah.2.2.2.1.aj bn) (ah.1.trans bn);obtain⟨bl,aA,aO⟩:=a3.1.two;obtain⟨e0,a6,aP⟩:=H.o.o.two;clear bn;go_wp2_with(fail);generalize hX:World.setCell _ _ _=Z;obtain⟨bk,bd,bg⟩:=bw (w:=w) [.slice bF bW a5,.slice ab tn L,.slice bO hn aZ,.int .i64 s.fault] (by rfl) a3.1 a3.2 ad hX;have bh:=ag bd bg;clear hX bd bg bl aA aO e0 a6 aP;obtain⟨bl,aA,aO⟩:=bk.two;refine LU (v:=.tuple #[.agg #[.slice bF bW a5,.slice ab tn L,.slice bO hn aZ,.int .i64 s.fault],.bool true]) (by simp[results,Tryz.results18,go_sem,bl]) rfl ?_;rw[bX.o];show cV mW w (aT s t {f with pc:=x.target}) true _ _
 exact gX (Q:=aT s t {f with pc:=x.target}) (q:=⟨bF,bW,a5,ab,tn,L,bO,hn,aZ⟩) H.o bh.2 (λb O=>ad) ad bh.1 (by rw[eh bZ.2.1])
 ):p:=h
end C3
open C3 in
theorem qv(u:ay)(s:ai)(t:Int)(N:Nat)(w:World)(p:UV)(q:SV)(hU:tV u)(hS:aX u N s)(hN:N<=100000)(hu:p.Ok w u)(hs:q.Ok w s) :
  Calls prog 18 #[.agg (p.val u),.agg (q.val s),.int .i64 t] w (cV mW w (aV u s t).1 (aV u s t).2):=by
 have HA:=aE hU hS (hS.small hU.ok hN);have ce:=ag hu hs;clear hU hS hu hs;obtain⟨GA,gn,gc,MA,mn,mc,PA,pn,pc⟩:=p;obtain⟨bU,bW,bE,TA,tn,tc,bf,hn,hc⟩:=q;dsimp only[UV.val,SV.val];go_enter func18,ntmps18;go_upto_region 1 with(fail);generalize be:World.alloc _ _=W;have aw:=lC be;have bD:=jw be;have b4:=h1 be;have cB:=jx be;have ah:=cH aw bD b4 cB (ce.1.on aw) (ce.2.on aw);have c5:=aw.size;have dw:=cB.lt;obtain⟨a0,aj,af⟩:=bD.two;obtain⟨a7,am,aF⟩:=b4.two;clear be aw bD b4 cB ce
 cases htop:de s t with
 | none=>
  have bX:=ae (q0 (u:=u) htop);have S:=ae htop;clear htop;go_wp2_with(fail);refine(uK u s t W ⟨GA,gn,gc,MA,mn,mc,PA,pn,pc⟩ ⟨bU,bW,bE,TA,tn,tc,bf,hn,hc⟩ ah.2.2.2.2.2 S.o).mono ?_;rintro e aS ⟨rfl,aN⟩;have bx:=ae aN;clear a0 aj af a7 am aF;go_upto_region 2 with(fail);generalize hV:World.alloc _ _=V;have bm:Ext W V:=hV▸aN.alloc _;have dm:=bm.size;obtain⟨a7,am,aF⟩:=(ah.2.2.1.aj bm).two;have bN:=ae bm;clear hV bm aN;go_wp2_with(fail);refine(ts s ⟨bU,bW,bE,TA,tn,tc,bf,hn,hc⟩ V (ah.2.2.2.2.2.on bN.o) HA.2.2).mono ?_;rintro e b6 ⟨⟨bF,cp,a5,ab,m,L,bO,ct,aZ⟩,rfl,I,a4⟩;have bM:=I.mono (c9:=λk=>mW k\/(V.heap.size<=k/\k<b6.heap.size)) λb O=>.inr O;clear I a7 am aF;have a3:=ag ((ah.2.2.2.1.aj bN.o).aj a4) ((ah.1.trans bN.o).trans a4);have c8:=ae bM;clear bM a4;obtain⟨bl,aA,aO⟩:=a3.1.two;go_wp2_with(fail);generalize hX:World.setCell _ _ _=Z;obtain⟨bk,bd,bg⟩:=bw (w:=w) [.slice bF cp a5,.slice ab m L,.slice bO ct aZ,.int .i64 s.fault] (by rfl) a3.1 a3.2 ad hX;have bh:=ag bd bg;clear hX bd bg bl aA aO;obtain⟨bl,aA,aO⟩:=bk.two;refine LU (v:=.tuple #[.agg #[.slice bF cp a5,.slice ab m L,.slice bO ct aZ,.int .i64 s.fault],.bool false]) (by simp[results,Tryz.results18,go_sem,bl]) rfl ?_;rw[bX.o];show cV mW w s false _ _
  exact eB (Q:=s) (q:=⟨bF,cp,a5,ab,m,L,bO,ct,aZ⟩) c8.o bh.2 (λb O=>ad) ad bh.1
 | some f=>
  obtain⟨cn,x,i,G⟩:=jv.of HA.1 HA.2.1 hN htop;have aQ:=ae (q2 htop G);have l:=ae i;have r:x.op=1\/x.op=2\/x.op=3\/x.op=4\/x.op=5\/x.op=6\/x.op=7\/x.op=8:=by
   exact zQ
  have ak:=ae r;clear htop G i r;go_wp2_with(fail);refine(uL u s t f cn x W ⟨GA,gn,gc,MA,mn,mc,PA,pn,pc⟩ ⟨bU,bW,bE,TA,tn,tc,bf,hn,hc⟩ ⟨l.sm,l.ht,l.hp,l.hx,l.hF.proc,l.pc.1,l.il,l.kl,ah.2.2.2.2.1,ah.2.2.2.2.2⟩).mono ?_;rintro e aS ⟨⟨eo,en,es,EA,em,ec,QA,qm,qc,dg,j,dc,KA,dj,kc⟩,rfl,bG,aN⟩;have bq:=ag bG aN;clear a0 aj af a7 am aF bG aN;dsimp only[IV.val];go_upto_region 2 with(fail);generalize hV:World.alloc _ _=V;have b7:=aW hV;have du:=aI hV;have bm:Ext W V:=bq.2.trans b7;have dm:=bm.size;have cf:=du.lt;have bN:=ae bm;have dv:=ae (bq.1.on b7);obtain⟨a0,aj,af⟩:=(ah.2.1.aj bm).two;obtain⟨a7,am,aF⟩:=(ah.2.2.1.aj bm).two;obtain⟨d0,aL,aM⟩:=du.two;have bJ:=ae du;clear hV bm b7 du bq;have dD:w.heap.size+2<V.heap.size:=ad;rcases ak.o with h|h|h|h|h|h|h|h
  all_goals
   first
    | have q1:(x.op == 1)=true:=by simpa using h
    | have q1:(x.op == 1)=false:=by simp;omega
   first
    | have cN:(x.op == 2)=true:=by simpa using h
    | have cN:(x.op == 2)=false:=by simp;omega
   first
    | have df:(x.op == 3)=true:=by simpa using h
    | have df:(x.op == 3)=false:=by simp;omega
   first
    | have dd:(x.op == 4)=true:=by simpa using h
    | have dd:(x.op == 4)=false:=by simp;omega
   first
    | have q5:(x.op == 5)=true:=by simpa using h
    | have q5:(x.op == 5)=false:=by simp;omega
   first
    | have dk:(x.op == 6)=true:=by simpa using h
    | have dk:(x.op == 6)=false:=by simp;omega
   first
    | have q7:(x.op == 7)=true:=by simpa using h
    | have q7:(x.op == 7)=false:=by simp;omega
   first
    | have dF:(x.op == 8)=true:=by simpa using h
    | have dF:(x.op == 8)=false:=by simp;omega
  iterate 6
   ·
    have R:=ae h;clear h;go_wp2_with(fail)
    first
     | refine(wO u s t f cn x N V ⟨bU,bW,bE,TA,tn,tc,bf,hn,hc⟩ ⟨eo,en,es,EA,em,ec,QA,qm,qc,dg,j,dc,KA,dj,kc⟩ l.o (aD R.o) (ah.2.2.2.2.2.on bN.o) dv.o).mono ?_
     | refine(Je u s t f cn x N V ⟨GA,gn,gc,MA,mn,mc,PA,pn,pc⟩ ⟨bU,bW,bE,TA,tn,tc,bf,hn,hc⟩ ⟨eo,en,es,EA,em,ec,QA,qm,qc,dg,j,dc,KA,dj,kc⟩ l.o (aD R.o) (ah.2.2.2.2.1.on bN.o) (ah.2.2.2.2.2.on bN.o) dv.o).mono ?_
     | refine(Jg u s t f cn x N V ⟨GA,gn,gc,MA,mn,mc,PA,pn,pc⟩ ⟨bU,bW,bE,TA,tn,tc,bf,hn,hc⟩ ⟨eo,en,es,EA,em,ec,QA,qm,qc,dg,j,dc,KA,dj,kc⟩ l.o hN (aD R.o) (ah.2.2.2.2.1.on bN.o) (ah.2.2.2.2.2.on bN.o) dv.o).mono ?_
    have z:=ae aQ.o;generalize bI u s t f x=av at *;obtain⟨Q,b⟩:=av;rintro e b6 ⟨⟨bF,cp,a5,ab,m,L,bO,ct,aZ⟩,rfl,bM,a4⟩;clear a0 aj af a7 am aF d0 aL aM;have a3:=ag ((ah.2.2.2.1.aj bN.o).aj a4) ((ah.1.trans bN.o).trans a4);have c8:=ae bM;clear bM a4;obtain⟨bl,aA,aO⟩:=a3.1.two;go_wp2_with(fail);generalize hX:World.setCell _ _ _=Z;obtain⟨bk,bd,bg⟩:=bw (w:=w) [.slice bF cp a5,.slice ab m L,.slice bO ct aZ,.int .i64 Q.fault] (by rfl) a3.1 a3.2 ad hX;have bh:=ag bd bg;clear hX bd bg bl aA aO;obtain⟨bl,aA,aO⟩:=bk.two;refine LU (v:=.tuple #[.agg #[.slice bF cp a5,.slice ab m L,.slice bO ct aZ,.int .i64 Q.fault],.bool b]) (by simp[results,Tryz.results18,go_sem,bl]) rfl ?_;rw[z.o];show cV mW w Q b _ _
    exact eB (Q:=Q) (q:=⟨bF,cp,a5,ab,m,L,bO,ct,aZ⟩) c8.o bh.2 (λb O=>ad) ad bh.1
  ·
   have bX:=ae (aQ.trans (yq h));clear h;go_wp2_with(fail);refine(fK s bU TA bf bW bE tn tc hn hc V (ah.2.2.2.2.2.on bN.o).at_ HA.2.2).mono ?_;rintro e b6 ⟨bF,a5,ab,L,bO,aZ,xs,F1,F2,bT,b2,rfl,ch,bB,a4⟩;have bP:=aE ch bB a4;have cQ:=a4.size;clear ch bB a4 a7 am aF a0 aj af d0 aL aM;go_upto_region 15 with(fail);generalize hU:World.alloc _ _=U;have cw:=aW hU;have c4:=aI hU;have hOut:dC V.heap.size U s b6.heap.size ⟨bF,bW,a5,ab,tn,L,bO,hn,aZ⟩ xs F1 F2 bT b2:=
    ⟨bP.1.al λb O=>cw.block b (bP.2.1 b O).2 λh=>h,c4,λO=>by have:=(bP.2.1 _ O).2;omega,λb O=>⟨(bP.2.1 b O).1,by have:=(bP.2.1 b O).2;have:=cw.size;omega⟩,cQ⟩
   have aU:Ext V U:=bP.2.2.trans cw;have bi:=bN.trans aU;obtain⟨ao,di,cy,fs,bA,cg⟩:=l.th;have pd:hn=s.threads.length:=by have:=ah.2.2.2.2.2.at_.h.1;simpa using this.symm
   have dy:t<(hn:Int):=ad;have bZ:=aE ao bA cg;have cD:=aE hOut bi aU;obtain⟨e0,a6,aP⟩:=hOut.o.two;clear hU cw c4 hOut aU bi ao cy bA cg pd;obtain⟨bV,c0,i2,c6,dh,cP,dl,c3,bc,aH,J⟩:=cD.1.top bZ.2.1 di bZ.1 bZ.2.2;have aa:=ag aH J;obtain⟨d0,aL,aM⟩:=(show aq U aS.heap.size 58 _ from bJ.aj cD.2.2).two;clear aH J c3 bc;go_upto_region 16 with(fail);refine eC (λ_=>False) [(0,0),(1,3),(3,3),(4,0),(2,1),(5,3),(6,3),(7,2)] ?_;refine ph ?_
   iterate 2 refine pf ?_
   refine ph ?_;refine aG rfl (λK hK=>?_);go_simp;refine(aa.1 U.drew LW.drew).mono ?_;rintro e cK ⟨rfl,co⟩;have P:=ae (aa.2 cK (Fr.aF co));have cc:=ae (cD.2.1.trans (Fr.aF co));refine dq hK (co) ?_;clear hK K;clear co e0 a6 aP d0 aL aM
   iterate 2 refine pf ?_
   have cb:=P.c1;have g2:=P.fz;have cT:=P.lt;exact eT
  ·
   have bX:=ae (aQ.trans (yr h));clear h;go_wp2_with(fail);refine(fK s bU TA bf bW bE tn tc hn hc V (ah.2.2.2.2.2.on bN.o).at_ HA.2.2).mono ?_;rintro e b6 ⟨bF,a5,ab,L,bO,aZ,xs,F1,F2,bT,b2,rfl,ch,bB,a4⟩;have bP:=aE ch bB a4;have cQ:=a4.size;clear ch bB a4 a7 am aF a0 aj af d0 aL aM;go_upto_region 15 with(fail);generalize hU:World.alloc _ _=U;have cw:=aW hU;have c4:=aI hU;have hOut:dC V.heap.size U s b6.heap.size ⟨bF,bW,a5,ab,tn,L,bO,hn,aZ⟩ xs F1 F2 bT b2:=
    ⟨bP.1.al λb O=>cw.block b (bP.2.1 b O).2 λh=>h,c4,λO=>by have:=(bP.2.1 _ O).2;omega,λb O=>⟨(bP.2.1 b O).1,by have:=(bP.2.1 b O).2;have:=cw.size;omega⟩,cQ⟩
   have aU:Ext V U:=bP.2.2.trans cw;have bi:=bN.trans aU;obtain⟨ao,di,cy,fs,bA,cg⟩:=l.th;have pd:hn=s.threads.length:=by have:=ah.2.2.2.2.2.at_.h.1;simpa using this.symm
   have dy:t<(hn:Int):=ad;have bZ:=aE ao bA cg;have cD:=aE hOut bi aU;obtain⟨e0,a6,aP⟩:=hOut.o.two;clear hU cw c4 hOut aU bi ao cy bA cg pd;obtain⟨O,cj,fc,mO,bH,T,cE,az,c1,ck,aB,y⟩:=cD.1.pop bZ.2.1;simp only at mO;subst mO;have al:=ae y;have ds:=bZ.2.2;obtain⟨d0,aL,aM⟩:=(show aq U aS.heap.size 58 _ from bJ.aj cD.2.2).two;clear y;go_upto_region 18 with(fail);exact Bs
def GF(P:Nat->Prop)(w:World)(s:ai)(e:Ending)(ab:World):Prop:=∃q:SV,e=.returned (.agg (q.val s))/\q.Is ab (λk=>P k\/(w.heap.size<=k/\k<ab.heap.size)) s/\Ext w ab
theorem yi(u:ay):dG u=⟨u.globals,List.replicate (own u.af).length ⟨0,0⟩,[[cY u u.main [] []]],0⟩:=rfl
theorem cp.below{α:Type}{f:α->List Value}{sz:Nat}{ab:World}{n:Nat}{A:L3}{l:List α}(h:cp (EF f) sz w B A n l)(ap:∀b,b<B->ab.heap[b]?=w.heap[b]?):cp (EF f) sz ab B A n l:=by
 refine⟨h.1,λhn=>?_⟩;obtain⟨b,o,aX,O,hc⟩:=h.2 hn;refine⟨b,o,aX,O,λk x hx=>?_⟩;obtain⟨cs,he,hl,bi⟩:=hc k x hx;exact⟨cs,he,hl,λj v bG=>(World.cell?_of_block (w:=w) (ap b O)).trans (bi j v bG)⟩
theorem F5(A:L3)(n c:Nat)(X:List bD)(w:World)(h:cp (EF gg) 3 w w.heap.size A n X)(hX:ns X) :
  Calls prog 48 #[.slice A n c] w λr ab=>∃I aK,r=.returned (.slice I (own X).length aK)/\ab.ownsRow w.heap.size 123 2 (.slice I (own X).length aK) (own X).length ((List.replicate (own X).length ⟨0,0⟩).flatMap bK)/\Below w.heap.size w ab:=by
 go_enter func48,ntmps48;go_wp2_with(fail);refine(h6 A n c X w h hX).mono ?_;rintro e aS ⟨rfl,O⟩;have Q:=dz X;have a:=ch hX;generalize hN:(own X).length=N at *;rw[<-Q];clear Q;have d3:=λW=>run_mk kX .i64 .i64 N ad ad W;go_wp2;go_ret;have ak:=O.size;have aB:=wZ (e:=123) (f:=bK) (x:=⟨0,0⟩) (zc:=#[.int .i64 0,.int .i64 0]) (sz:=2) rfl rfl ad N ad (w:=aS) (base:=w.heap.size) ak;rw[hN];exact⟨_,_,rfl,aB,O.alloc ak _⟩
namespace C4
theorem dE(h:p:=by
 generalize hX:World.setCell _ _ _=Z;have T:Ext w V:=((ah.1.trans aX.o).trans bP.2.1).trans m.1;obtain⟨bk,bd,bg⟩:=bw (w:=w) [.slice bF gn a5,.slice a1 (own u.af).length L,.slice (some ⟨b6.heap.size+1,0,none⟩) 1 1,.int .i64 0] (by rfl) aB.o T ad hX;have bh:=ag bd bg;clear hX bd bg bl aA aO T;obtain⟨bl,aA,aO⟩:=bk.two;clear bk;go_wp2_with(fail);refine LU (v:=.agg #[.slice bF gn a5,.slice a1 (own u.af).length L,.slice (some ⟨b6.heap.size+1,0,none⟩) 1 1,.int .i64 0]) (by simp[results,Tryz.results15,go_sem,bl]) rfl ?_;have cR:=bh.2.size;have i:∀b,b<V.heap.size->b≠w.heap.size+1->Z.heap[b]?=V.heap[b]?:=λb ac au=>bh.2.block b ac au;have al:w.heap.size+1<W.heap.size:=dw;have cv:∀b,aS.heap.size<=b->b<V.heap.size->Z.heap[b]?=V.heap[b]?:=λb ac au=>i b au ad;have aT:Own Z 3 1 bF gn a5 (u.globals.map df) (bt bF gn a5):=H1.1.al λb O=>by
  have:=H1.2.1 b O;have cS:W.drew.heap.size=W.heap.size:=rfl;exact(i b ad ad).trans ((m.1.block b ad λh=>h).trans ((bP.2.1.block b ad λh=>h).trans (bc.2.2.block b ad λh=>h)))
 have ci:gn=u.globals.length:=by have:=(ah.2.2).at_.g.1;rw[Lo] at this;exact this.symm
 have cS:W.drew.heap.size=W.heap.size:=rfl;have hG:Sl Z (λk=>False\/(w.heap.size<=k/\k<Z.heap.size)) bF gn (u.globals.map D.i):=aT.sl (cx _) (by simp[ci]) λb O=>by
  have:=H1.2.1 b O;exact .inr ⟨ad,ad⟩
 have g:Own Z 123 2 a1 (own u.af).length L ((List.replicate (own u.af).length ⟨0,0⟩).flatMap bK) (bt a1 (own u.af).length L):=bc.1.al λb O=>by
  have:=bc.2.1 b O;exact(i b ad ad).trans ((m.1.block b ad λh=>h).trans (bP.2.1.block b ad λh=>h))
 have hT:Sl Z (λk=>False\/(w.heap.size<=k/\k<Z.heap.size)) a1 (own u.af).length ((List.replicate (own u.af).length ⟨0,0⟩).map lD):=g.sl (dA _) (by simp) λb O=>by
  have:=bc.2.1 b O;exact .inr ⟨ad,ad⟩
 have s:=m.2.1.on bh.2 ad;have F:=m.2.2.on bh.2 ad;have H:=m.2.1.lt;have l:(ew R).rep Z (λk=>False\/(w.heap.size<=k/\k<Z.heap.size)) [.int .i64 R.proc,.int .i64 R.pc,.slice FA dr bR,.slice dB fl cI]:=D.aL (λb O=>.inr ⟨by have:=O.1;omega,by have:=O.2;omega⟩) _ _ (D.aS (λb O=>(i b (aD O.2) (aD O.1)).trans (m.1.block b O.2 λh=>h)) _ _ bP.1);have hF:Sl Z (λk=>False\/(w.heap.size<=k/\k<Z.heap.size)) (some ⟨b6.heap.size,0,none⟩) 1 ([R].map ew):=⟨rfl,λ_=>⟨b6.heap.size,0,_,rfl,.inr ⟨ad,ad⟩,D.bm.2 l,λj v bi=>by
  rw[LF,s.cell];simpa using bi⟩⟩
 have hH:Sl Z (λk=>False\/(w.heap.size<=k/\k<Z.heap.size)) (some ⟨b6.heap.size+1,0,none⟩) 1 ([[R]].map jW):=⟨rfl,λ_=>⟨b6.heap.size+1,0,[.slice (some ⟨b6.heap.size,0,none⟩) 1 1],rfl,.inr ⟨ad,ad⟩,D.bm.2 (eV.2 ⟨_,1,1,rfl,Lk _,hF⟩),λj v bi=>by
  rw[LF,F.cell];simpa using bi⟩⟩
 have y:dG u=⟨u.globals,List.replicate (own u.af).length ⟨0,0⟩,[[R]],0⟩:=by rw[yi,bP.2.2]
 rw[y];have N:(⟨bF,gn,a5,a1,(own u.af).length,L,some ⟨b6.heap.size+1,0,none⟩,1,1⟩:SV).Is Z (λk=>False\/(w.heap.size<=k/\k<Z.heap.size)) ⟨u.globals,List.replicate (own u.af).length ⟨0,0⟩,[[R]],0⟩:=⟨⟨hG,hT,hH⟩,aT.cap,g.cap,Lk _⟩
 exact⟨⟨bF,gn,a5,a1,(own u.af).length,L,some ⟨b6.heap.size+1,0,none⟩,1,1⟩,rfl,N,bh.1⟩
 ):p:=h
theorem sT(h:p:=by
 refine pf ?_;refine ml (λV=>Ext b6 V/\aq V b6.heap.size 72 #[.int .i64 R.proc,.int .i64 R.pc,.slice FA dr bR,.slice dB fl cI]/\aq V (b6.heap.size+1) 68 #[.slice (some ⟨b6.heap.size,0,none⟩) 1 1]) ⟨(LW.alloc _).alloc _,(LX).alloc _,aq.gC _ _ _ (by simp)⟩ (λV hV=>?_);have m:=ae hV;have z:=a3.aj hV.1;have dm:=hV.1.size;have G:=hV.2.2.lt;clear hV;obtain⟨bl,aA,aO⟩:=z.two;have aB:=ae z;clear z;exact eT
 ):p:=h
theorem lX(h:p:=by
 have ah:=aE aw cB (ce.on aw);have c5:=aw.size;have dw:=cB.lt;obtain⟨a0,aj,af⟩:=aR.two;clear be aw aR cB ce;refine eC (λ_=>False) [(0,3),(1,0),(3,3),(4,0),(6,0),(7,3),(8,0),(2,1),(5,1),(9,2),(10,2),(11,3),(12,2),(13,3),(14,2)] ?_;refine pf ?_;refine ph ?_;refine pf ?_
 iterate 2 refine ph ?_
 refine pf ?_;refine ph ?_;refine aG rfl (λK hK=>?_);go_simp;refine(Sl.l3 (ah.2.2.on (Fr.refl _ W).drew).at_.g r3).mono ?_;rintro r aS ⟨bF,a5,rfl,E,aK,ar⟩;have H1:=aE E aK (Fr.aF ar);refine dq hK (ar) ?_;clear hK K;clear E aK ar;refine aG rfl (λK hK=>?_);go_simp;refine(F5 MA mn mc u.af aS (ah.2.2.on H1.2.2).at_.m.mT cD.1.ok.vB).mono ?_;rintro r aU ⟨a1,L,rfl,o,bj⟩;have f:Own aU 123 2 a1 (own u.af).length L ((List.replicate (own u.af).length ⟨0,0⟩).flatMap bK) (bt a1 (own u.af).length L):=⟨hh o (LJ _),rfl⟩
 have n:∀b∈bt a1 (own u.af).length L,aS.heap.size<=b/\b<aU.heap.size:=λb O=>o.lt b (by simpa using O);have bc:=aE f n (Fr.of (M:=λ_=>False) bj);have bO:=bj.size;refine dq hK (Fr.of bj) ?_;clear hK K;clear o f n bj;have aZ:Ext W aU:=H1.2.2.trans bc.2.2;have bN:=aZ.size;have cr:=H1.2.2.size;have aX:=ae aZ;refine ax rfl (λK hK=>?_);go_simp;refine(mframe u u.main dQ [] [] none none 0 0 0 0 aU ⟨GA,gn,gc,MA,mn,mc,PA,pn,pc⟩ (ah.2.2.on aZ) cD.2.1 cD.2.2.1 (by have:=cD.2.2.2.ints;simp;omega) cD.2.2.2.ints.2.2 (by simp) (Sl.bR _) (Sl.bR _)).mono ?_;rintro e b6 ⟨FA,dr,bR,dB,fl,cI,rfl,b1,a4⟩;generalize cZ:cY u u.main [] []=R at *;have bP:=aE b1 a4 cZ;have cQ:=a4.size;have cz:=(ah.2.1.aj aZ).aj a4;clear b1 a4 cZ aZ a0 aj af;have a3:=ae cz;clear cz;refine dP hK ?_;clear hK K;exact sS
 ):p:=h
end C4
open C4 in
theorem Jh(u:ay)(w:World)(p:UV)(hU:tV u)(hu:p.Ok w u) :
  Calls prog 15 #[.agg (p.val u)] w (GF (λ_=>False) w (dG u)):=by
 obtain⟨GA,gn,gc,MA,mn,mc,PA,pn,pc⟩:=p;obtain⟨dQ,bu,ai,a9,cf⟩:=hU.ok.main;have cw:=hU.ok.procs dQ (Ln ai);have r3:gn<=100000:=by have ac:=hu.at_.g.1;have au:=hU.ok.ou;rw[Lo] at ac;have aY:u.globals.length=gn:=ac;omega
 have cD:=bJ hU bu ai cw;have ce:=ae hu;clear hU bu ai a9 cf cw hu;dsimp only[UV.val];go_enter func15,ntmps15;exact lW
end Go.Proofs.YtkhnkojkplbioaaGreat

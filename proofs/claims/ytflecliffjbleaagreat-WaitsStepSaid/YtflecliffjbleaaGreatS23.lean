/- Part 23 of the proof. No condition of its own. -/
import Derived.Test.YtflecliffjbleaaGreatS22
namespace Go.Proofs.YtflecliffjbleaaGreat
open Go.RowKit Go.Proofs.Tryz
set_option maxRecDepth 1000000
set_option maxHeartbeats 25600000
set_option linter.unusedVariables false
variable{t:Int}{F F1 F2:List Nat}{xs:List Value}{fs:List an}{B k m n:Nat}{e:TypeId}{v1 v2:Value}{ab:World}{f:an}{u:aw}{x:ay}
theorem dC.pop{w:World}{s:ai}{N:Nat}{q:SV}{bI b9:List Nat}(h:dC B w s N q xs F1 F2 bI b9)(bv:s.threads[k]?=some (fs++[f])):
  ∃O ch fc,q.HA=some ⟨O,0,none⟩/\k<q.hn/\O<w.heap.size/\O≠N/\B<=O/\(∀j,w.frozen? ⟨O,j,none⟩=false)/\w.cell? ⟨O,k,none⟩=some (.slice (some ⟨ch,0,none⟩) (fs.length+1) fc)/\fs.length+1<=fc/\
   ∀X,w.setCell ⟨O,k,none⟩ (.slice (some ⟨ch,0,none⟩) fs.length fc)=X->∃e d,dC B X {s with threads:=s.threads.set k fs} N q e F1 F2 bI d:=by
 obtain⟨O,ch,fc,IA,i,ic,bB,l,lc,mW,a7,T,cr,aD,bu,al,hl,hc,G,c0,c1,c2,c3,U,a,c9,hints,H⟩:=h.st.top bv;have c5:O∈F1++(F2++(bI++b9)):=by simp[aD]
 refine⟨O,ch,fc,mW,a7,T,λhe=>h.ne (he▸c5),(h.lo _ c5).1,U,hc,G,λX hX=>?_⟩;obtain⟨e,d,cm,M⟩:=H;subst hX;have g:∀b,b∈F1++(F2++(bI++d))->b∈F1++(F2++(bI++b9)):=λb O=>by
  simp only[LL] at O ⊢;rcases O with O|O|O|O
  .exact .inl O
  .exact .inr (.inl O)
  .exact .inr (.inr (.inl O))
  .exact .inr (.inr (.inr (M b O)))
 exact⟨e,d,cm,h.o.J1 (λhe=>h.ne (he▸c5)) _,λaY=>h.ne (g _ aY),λb O=>⟨(h.lo b (g b O)).1,by simpa[World.setCell] using (h.lo b (g b O)).2⟩,h.go⟩
theorem dC.drew{B:Nat}{w:World}{s:ai}{N:Nat}{q:SV}{xs:List Value}{F1 F2 bI b9:List Nat}(h:dC B w s N q xs F1 F2 bI b9):dC B w.drew s N q xs F1 F2 bI b9:=h.aj Mg.drew
theorem yl{s:ai}(h:s.threads[t.toNat]?=some (fs++[f])):uL s t={s with threads:=s.threads.set t.toNat fs}:=by
 unfold uL;rw[lC h,kH]
theorem q0{s:ai}(h:dO s t=some f)(hx:dz u s t=some x):cj u s t=b1 u s t f x:=by
 unfold cj;rw[h,hx]
theorem qZ{s:ai}(h:dO s t=none):cj u s t=(s,false):=by
 unfold cj;rw[h]
theorem ys{s:ai}(h:x.op=7):b1 u s t f x=(bq s t {f with pc:=x.target},true):=by
 unfold b1;rw[if_neg ad,if_neg ad,if_neg ad,if_pos h]
theorem yt{s:ai}(h:x.op=8):b1 u s t f x=(uL s t,true):=by
 unfold b1;rw[if_neg ad,if_neg ad,if_neg ad,if_neg ad]
namespace CF
theorem BG{p:Prop}(h:p:=by
 have ap:((fs.length:Nat):Int)<=(fc:Int):=ad
 iterate 3 refine pf ?_
 refine au rfl (λK hK=>?_);go_simp;refine dU hK ?_;clear hK K;refine aC ?_;generalize hX:World.setCell _ _ _=Y;obtain⟨az,av,l⟩:=an.o Y hX;have ar:=cJ hX;have bn:Ext W Y:=Fr.low (M:=λb=>b=O) (Fr.trans (Fr.mono cz.2.1 λ_ h=>h.elim) ar) λb O=>ad;have R:=ae l;clear hX l ar e0 a6 aQ d0 aK aO cb de;have a2:=ah (ag.2.2.2.1.aj bn) (ag.1.trans bn);obtain⟨bp,aM,aV⟩:=a2.1.two;obtain⟨e0,a6,aQ⟩:=R.o.o.two;clear bn;go_wp2_with(fail);generalize hX:World.setCell _ _ _=Z;obtain⟨bt,ba,bf⟩:=bs (w:=w) [.slice bV bK L,.slice bA tn S,.slice (some ⟨O,0,none⟩) hn aX,.int .i64 s.fault] (by rfl) a2.1 a2.2 ad hX;have bh:=ah ba bf;clear hX ba bf bp aM aV e0 a6 aQ;obtain⟨bp,aM,aV⟩:=bt.two;refine Mf (v:=.tuple #[.agg #[.slice bV bK L,.slice bA tn S,.slice (some ⟨O,0,none⟩) hn aX,.int .i64 s.fault],.bool true]) (by simp[results,Tryz.results24,go_sem,bp]) rfl ?_;rw[bT.o];show c8 nQ w (uL s t) true _ _
 exact g4 (aq:=uL s t) (q:=⟨bV,bK,L,bA,tn,S,(some ⟨O,0,none⟩),hn,aX⟩) R.o bh.2.drew (λb O=>ad) ad bh.1.drew (by rw[yl bS.2.1])
 ):p:=h
theorem dd{p:Prop}(h:p:=by
 generalize hX:World.setCell _ _ _=Y;have l:dC V.heap.size Y {s with threads:=s.threads.set t.toNat (fs++[{f with pc:=x.target}])} b4.heap.size ⟨bV,bK,L,bA,tn,S,bH,hn,aX⟩ xs F1 F2 bI b9:=hX▸P.pc x.target;have ar:=cJ hX;have ds:=P.ge;have bn:Ext W Y:=Fr.low (M:=λb=>b=bW) (Fr.trans (Fr.mono cd.o λ_ h=>h.elim) ar) λb O=>ad;have R:=ae l;clear hX l ar ce g2 cN P;have a2:=ah (ag.2.2.2.1.aj bn) (ag.1.trans bn);obtain⟨bp,aM,aV⟩:=a2.1.two;obtain⟨e0,a6,aQ⟩:=R.o.o.two;clear bn;go_wp2_with(fail);generalize hX:World.setCell _ _ _=Z;obtain⟨bt,ba,bf⟩:=bs (w:=w) [.slice bV bK L,.slice bA tn S,.slice bH hn aX,.int .i64 s.fault] (by rfl) a2.1 a2.2 ad hX;have bh:=ah ba bf;clear hX ba bf bp aM aV e0 a6 aQ;obtain⟨bp,aM,aV⟩:=bt.two;refine Mf (v:=.tuple #[.agg #[.slice bV bK L,.slice bA tn S,.slice bH hn aX,.int .i64 s.fault],.bool true]) (by simp[results,Tryz.results24,go_sem,bp]) rfl ?_;rw[bT.o];show c8 nQ w (bq s t {f with pc:=x.target}) true _ _
 exact g4 (aq:=bq s t {f with pc:=x.target}) (q:=⟨bV,bK,L,bA,tn,S,bH,hn,aX⟩) R.o bh.2 (λb O=>ad) ad bh.1 (by rw[ej bS.2.1])
 ):p:=h
theorem Az{p:Prop}(h:p:=by
 have dj:=bo.size;have cn:=dc.lt;have bP:=ae bo;have dw:=ae (cT.1.on b5);obtain⟨a0,ak,af⟩:=(ag.2.1.aj bo).two;obtain⟨a8,am,aJ⟩:=(ag.2.2.1.aj bo).two;obtain⟨d0,aK,aO⟩:=dc.two;have ca:=ae dc;clear hV bo b5 dc cT;have dx:w.heap.size+2<V.heap.size:=ad;rcases aj.o with h|h|h|h|h|h|h|h
 all_goals
  first
   | have q1:(x.op == 1)=true:=by simpa using h
   | have q1:(x.op == 1)=false:=by simp;omega
  first
   | have cO:(x.op == 2)=true:=by simpa using h
   | have cO:(x.op == 2)=false:=by simp;omega
  first
   | have da:(x.op == 3)=true:=by simpa using h
   | have da:(x.op == 3)=false:=by simp;omega
  first
   | have db:(x.op == 4)=true:=by simpa using h
   | have db:(x.op == 4)=false:=by simp;omega
  first
   | have q5:(x.op == 5)=true:=by simpa using h
   | have q5:(x.op == 5)=false:=by simp;omega
  first
   | have dp:(x.op == 6)=true:=by simpa using h
   | have dp:(x.op == 6)=false:=by simp;omega
  first
   | have q7:(x.op == 7)=true:=by simpa using h
   | have q7:(x.op == 7)=false:=by simp;omega
  first
   | have dA:(x.op == 8)=true:=by simpa using h
   | have dA:(x.op == 8)=false:=by simp;omega
 iterate 6
  ·
   have ab:=ae h;clear h;go_wp2_with(fail)
   first
    | refine(wM u s t f cp x N V ⟨bE,bK,bw,TA,tn,tc,bl,hn,hc⟩ ⟨eo,en,es,EA,em,ec,QA,qm,qc,dk,j,df,KA,dg,kc⟩ i.o (aB ab.o) (ag.2.2.2.2.2.on bP.o) dw.o).mono ?_
    | refine(Jt u s t f cp x N V ⟨GA,gn,gc,MA,mn,mc,PA,pn,pc⟩ ⟨bE,bK,bw,TA,tn,tc,bl,hn,hc⟩ ⟨eo,en,es,EA,em,ec,QA,qm,qc,dk,j,df,KA,dg,kc⟩ i.o (aB ab.o) (ag.2.2.2.2.1.on bP.o) (ag.2.2.2.2.2.on bP.o) dw.o).mono ?_
    | refine(Jw u s t f cp x N V ⟨GA,gn,gc,MA,mn,mc,PA,pn,pc⟩ ⟨bE,bK,bw,TA,tn,tc,bl,hn,hc⟩ ⟨eo,en,es,EA,em,ec,QA,qm,qc,dk,j,df,KA,dg,kc⟩ i.o hN (aB ab.o) (ag.2.2.2.2.1.on bP.o) (ag.2.2.2.2.2.on bP.o) dw.o).mono ?_
   have z:=ae aG.o;generalize b1 u s t f x=ax at *;obtain⟨aq,b⟩:=ax;rintro e b4 ⟨⟨bV,cx,L,bA,m,S,bH,bJ,aX⟩,rfl,b8,a3⟩;clear a0 ak af a8 am aJ d0 aK aO;have a2:=ah ((ag.2.2.2.1.aj bP.o).aj a3) ((ag.1.trans bP.o).trans a3);have cK:=ae b8;clear b8 a3;obtain⟨bp,aM,aV⟩:=a2.1.two;go_wp2_with(fail);generalize hX:World.setCell _ _ _=Z;obtain⟨bt,ba,bf⟩:=bs (w:=w) [.slice bV cx L,.slice bA m S,.slice bH bJ aX,.int .i64 aq.fault] (by rfl) a2.1 a2.2 ad hX;have bh:=ah ba bf;clear hX ba bf bp aM aV;obtain⟨bp,aM,aV⟩:=bt.two;refine Mf (v:=.tuple #[.agg #[.slice bV cx L,.slice bA m S,.slice bH bJ aX,.int .i64 aq.fault],.bool b]) (by simp[results,Tryz.results24,go_sem,bp]) rfl ?_;rw[z.o];show c8 nQ w aq b _ _
   exact eB (aq:=aq) (q:=⟨bV,cx,L,bA,m,S,bH,bJ,aX⟩) cK.o bh.2 (λb O=>ad) ad bh.1
 ·
  have bT:=ae (aG.trans (ys h));clear h;go_wp2_with(fail);refine(fT s bE TA bl bK bw tn tc hn hc V (ag.2.2.2.2.2.on bP.o).at_ HA.2.2).mono ?_;rintro e b4 ⟨bV,L,bA,S,bH,aX,xs,F1,F2,bI,b9,rfl,cm,bm,a3⟩;have bY:=aA cm bm a3;have cF:=a3.size;clear cm bm a3 a8 am aJ a0 ak af d0 aK aO;go_upto_region 15 with(fail);generalize hU:World.alloc _ _=U;have cl:=aZ hU;have cV:=aN hU;have hOut:dC V.heap.size U s b4.heap.size ⟨bV,bK,L,bA,tn,S,bH,hn,aX⟩ xs F1 F2 bI b9:=
   ⟨bY.1.ak λb O=>cl.block b (bY.2.1 b O).2 λh=>h,cV,λO=>by have:=(bY.2.1 _ O).2;omega,λb O=>⟨(bY.2.1 b O).1,by have:=(bY.2.1 b O).2;have:=cl.size;omega⟩,cF⟩
  have bB:Ext V U:=bY.2.2.trans cl;have bc:=bP.trans bB;obtain⟨bN,c4,cw,fs,bv,cr⟩:=i.th;have uz:hn=s.threads.length:=by have:=ag.2.2.2.2.2.at_.h.1;simpa using this.symm
  have du:t<(hn:Int):=ad;have bS:=aA bN bv cr;have cz:=aA hOut bc bB;obtain⟨e0,a6,aQ⟩:=hOut.o.two;clear hU cl cV hOut bB bc bN cw bv cr uz;obtain⟨bW,c1,i2,cH,dh,c0,di,cf,ct,aE,J⟩:=cz.1.top bS.2.1 c4 bS.1 bS.2.2;have Q:=ah aE J;obtain⟨d0,aK,aO⟩:=(show ao U aP.heap.size 61 _ from ca.aj cz.2.2).two;clear aE J cf ct;go_upto_region 16 with(fail);refine eK (λ_=>False) [(0,0),(1,3),(3,3),(4,0),(2,1),(5,3),(6,3),(7,2)] ?_;refine ph ?_
  iterate 2 refine pf ?_
  refine ph ?_;refine aI rfl (λK hK=>?_);go_simp;refine(Q.1 U.drew Mg.drew).mono ?_;rintro e cI ⟨rfl,bL⟩;have P:=ae (Q.2 cI (Fr.aF bL));have cd:=ae (cz.2.1.trans (Fr.aF bL));refine dP hK (bL) ?_;clear hK K;clear bL e0 a6 aQ d0 aK aO
  iterate 2 refine pf ?_
  have ce:=P.c1;have g2:=P.fz;have cN:=P.lt;exact eM
 ·
  have bT:=ae (aG.trans (yt h));clear h;go_wp2_with(fail);refine(fT s bE TA bl bK bw tn tc hn hc V (ag.2.2.2.2.2.on bP.o).at_ HA.2.2).mono ?_;rintro e b4 ⟨bV,L,bA,S,bH,aX,xs,F1,F2,bI,b9,rfl,cm,bm,a3⟩;have bY:=aA cm bm a3;have cF:=a3.size;clear cm bm a3 a8 am aJ a0 ak af d0 aK aO;go_upto_region 15 with(fail);generalize hU:World.alloc _ _=U;have cl:=aZ hU;have cV:=aN hU;have hOut:dC V.heap.size U s b4.heap.size ⟨bV,bK,L,bA,tn,S,bH,hn,aX⟩ xs F1 F2 bI b9:=
   ⟨bY.1.ak λb O=>cl.block b (bY.2.1 b O).2 λh=>h,cV,λO=>by have:=(bY.2.1 _ O).2;omega,λb O=>⟨(bY.2.1 b O).1,by have:=(bY.2.1 b O).2;have:=cl.size;omega⟩,cF⟩
  have bB:Ext V U:=bY.2.2.trans cl;have bc:=bP.trans bB;obtain⟨bN,c4,cw,fs,bv,cr⟩:=i.th;have uz:hn=s.threads.length:=by have:=ag.2.2.2.2.2.at_.h.1;simpa using this.symm
  have du:t<(hn:Int):=ad;have bS:=aA bN bv cr;have cz:=aA hOut bc bB;obtain⟨e0,a6,aQ⟩:=hOut.o.two;clear hU cl cV hOut bB bc bN cw bv cr uz;obtain⟨O,ch,fc,mW,a7,T,bg,ay,de,cb,G,H⟩:=cz.1.pop bS.2.1;simp only at mW;subst mW;have an:=ae H;have c6:=bS.2.2;obtain⟨d0,aK,aO⟩:=(show ao U aP.heap.size 61 _ from ca.aj cz.2.2).two;clear H;go_upto_region 18 with(fail);exact BF
 ):p:=h
end CF
open CF in
theorem mstep(u:aw)(s:ai)(t:Int)(N:Nat)(w:World)(p:UV)(q:SV)(hU:yH u)(hS:aT u N s)(hN:N<=100000)(hu:p.Ok w u)(hs:q.Ok w s) :
  Calls prog 24 #[.agg (p.val u),.agg (q.val s),.int .i64 t] w (c8 nQ w (cj u s t).1 (cj u s t).2):=by
 have HA:=aA hU hS (hS.small hU.ok hN);have cc:=ah hu hs;clear hU hS hu hs;obtain⟨GA,gn,gc,MA,mn,mc,PA,pn,pc⟩:=p;obtain⟨bE,bK,bw,TA,tn,tc,bl,hn,hc⟩:=q;dsimp only[UV.val,SV.val];go_enter func24,ntmps24;go_upto_region 1 with(fail);generalize bd:World.alloc _ _=W;have aF:=l3 bd;have bU:=kr bd;have bQ:=iC bd;have cB:=ks bd;have ag:=dI aF bU bQ cB (cc.1.on aF) (cc.2.on aF);have cS:=aF.size;have dy:=cB.lt;obtain⟨a0,ak,af⟩:=bU.two;obtain⟨a8,am,aJ⟩:=bQ.two;clear bd aF bU bQ cB cc
 cases htop:dO s t with
 | none=>
  have bT:=ae (qZ (u:=u) htop);have I:=ae htop;clear htop;go_wp2_with(fail);refine(kS u s t W ⟨GA,gn,gc,MA,mn,mc,PA,pn,pc⟩ ⟨bE,bK,bw,TA,tn,tc,bl,hn,hc⟩ ag.2.2.2.2.2 I.o).mono ?_;rintro e aP ⟨rfl,aL⟩;have bu:=ae aL;clear a0 ak af a8 am aJ;go_upto_region 2 with(fail);generalize hV:World.alloc _ _=V;have bo:Ext W V:=hV▸aL.alloc _;have dj:=bo.size;obtain⟨a8,am,aJ⟩:=(ag.2.2.1.aj bo).two;have bP:=ae bo;clear hV bo aL;go_wp2_with(fail);refine(te s ⟨bE,bK,bw,TA,tn,tc,bl,hn,hc⟩ V (ag.2.2.2.2.2.on bP.o) HA.2.2).mono ?_;rintro e b4 ⟨⟨bV,cx,L,bA,m,S,bH,bJ,aX⟩,rfl,aa,a3⟩;have b8:=aa.mono (cW:=λk=>nQ k\/(V.heap.size<=k/\k<b4.heap.size)) λb O=>.inr O;clear aa a8 am aJ;have a2:=ah ((ag.2.2.2.1.aj bP.o).aj a3) ((ag.1.trans bP.o).trans a3);have cK:=ae b8;clear b8 a3;obtain⟨bp,aM,aV⟩:=a2.1.two;go_wp2_with(fail);generalize hX:World.setCell _ _ _=Z;obtain⟨bt,ba,bf⟩:=bs (w:=w) [.slice bV cx L,.slice bA m S,.slice bH bJ aX,.int .i64 s.fault] (by rfl) a2.1 a2.2 ad hX;have bh:=ah ba bf;clear hX ba bf bp aM aV;obtain⟨bp,aM,aV⟩:=bt.two;refine Mf (v:=.tuple #[.agg #[.slice bV cx L,.slice bA m S,.slice bH bJ aX,.int .i64 s.fault],.bool false]) (by simp[results,Tryz.results24,go_sem,bp]) rfl ?_;rw[bT.o];show c8 nQ w s false _ _
  exact eB (aq:=s) (q:=⟨bV,cx,L,bA,m,S,bH,bJ,aX⟩) cK.o bh.2 (λb O=>ad) ad bh.1
 | some f=>
  obtain⟨cp,x,n,r⟩:=jq.of HA.1 HA.2.1 hN htop;have aG:=ae (q0 htop r);have i:=ae n;have y:x.op=1\/x.op=2\/x.op=3\/x.op=4\/x.op=5\/x.op=6\/x.op=7\/x.op=8:=by
   exact zU
  have aj:=ae y;clear htop r n y;go_wp2_with(fail);refine(kT u s t f cp x W ⟨GA,gn,gc,MA,mn,mc,PA,pn,pc⟩ ⟨bE,bK,bw,TA,tn,tc,bl,hn,hc⟩ ⟨i.sm,i.ht,i.hp,i.hx,i.hF.proc,i.pc.1,i.il,i.kl,ag.2.2.2.2.1,ag.2.2.2.2.2⟩).mono ?_;exact Ay
def I3(P:Nat->Prop)(w:World)(s:ai)(e:Ending)(ab:World):Prop:=∃q:SV,e=.returned (.agg (q.val s))/\q.Is ab (λk=>P k\/(w.heap.size<=k/\k<ab.heap.size)) s/\Ext w ab
theorem F7(u:aw):eV u=⟨u.globals,List.replicate (own u.af).length ⟨0,0⟩,[[dn u u.main [] []]],0⟩:=rfl
theorem cA.below{α:Type}{f:α->List Value}{sz:Nat}{w:World}{A:Mk}{l:List α}(h:cA (EF f) sz w B A n l)(aj:∀b,b<B->ab.heap[b]?=w.heap[b]?):cA (EF f) sz ab B A n l:=by
 refine⟨h.1,λhn=>?_⟩;obtain⟨b,o,bO,O,hc⟩:=h.2 hn;refine⟨b,o,bO,O,λk x hx=>?_⟩;obtain⟨cs,he,hl,bi⟩:=hc k x hx;exact⟨cs,he,hl,λj v bG=>(World.cell?_of_block (w:=w) (aj b O)).trans (bi j v bG)⟩
def iB(e:TypeId)(z n:Nat)(xs:List Value)(w:World)(st:Nat)(v1 v2:Value)(F:List Nat):Prop:=
 (st=0/\v1=undef/\v2=undef/\F=[])\/(st=1/\v2=undef/\∃A,v1=.slice A 0 0/\Own w e z A 0 0 [] F)\/(st=2/\∃A c,v2=.slice A n c/\Own w e z A n c xs F)
theorem iB.ak{e:TypeId}{z n:Nat}{xs:List Value}{w ab:World}{st:Nat}{v1 v2:Value}{F:List Nat}(h:iB e z n xs w st v1 v2 F)(aj:∀b∈F,ab.heap[b]?=w.heap[b]?):iB e z n xs ab st v1 v2 F:=by
 rcases h with h|⟨ac,ax,A,a1,aU⟩|⟨ac,A,c,ax,a1⟩
 .exact .inl h
 .exact .inr (.inl ⟨ac,ax,A,a1,aU.ak aj⟩)
 .exact .inr (.inr ⟨ac,A,c,ax,a1.ak aj⟩)
def x2(g t h:Nat)(b:Bool):List Nat:=
 (bif g == 0 then [0] else [])++((bif g == 1 then [3] else [])++((bif t == 0 then [4] else [])++((bif t == 1 && g == 2 then [7] else [])++((bif h == 0 then [8] else [])++((bif h == 1 && t == 2 then [11] else [])++(bif b then [] else [15]))))))
def Hq(b:Bool):PT:=bif b then .pick [16] (λ_=>.stop) else .pick [15] (λ_=>.pick [16] (λ_=>.stop))
def ju:Nat->Nat->Nat->Nat->Bool->PT
 | 0,_,_,_,_=>.stop
 | f+1,g,t,h,b=>bif h == 2 then .free 14 (Hq b) else .pick (x2 g t h b) λi=>
   bif i == 0 then ju f 1 t h b else bif i == 3 then ju f 2 t h b else bif i == 4 then ju f g 1 h b else bif i == 7 then ju f g 2 h b else bif i == 8 then ju f g t 1 b else bif i == 11 then ju f g t 2 b else ju f g t h true
structure hg(W:World)(s:ai)(gn tn hn:Nat)(hx:List Value)(w:World)(g t h:Nat)(b:Bool)(bn bJ v10 v11 aH aJ aI:Value)(F1 F2 bI b9:List Nat):Prop where
 ext:Ext W w
 g:iB 3 1 gn (s.globals.map dq) w g bJ v10 F1
 t:iB 95 2 tn (s.table.flatMap cb) w t v11 aH F2
 h:iB 49 1 hn hx w h aJ aI bI
 o:(b=false/\bn=undef/\b9=[])\/(b=true/\∃N,bn=.pointer (some ⟨N,0,none⟩)/\b9=[N]/\ao w N 30 #[.slice none 0 0,.slice none 0 0,.slice none 0 0,.int .i64 0])
 nd:(F1++(F2++(bI++b9))).Nodup
 lo:∀k∈F1++(F2++(bI++b9)),W.heap.size<=k/\k<w.heap.size
theorem qz(h:(F1++F2).Nodup)(hl:∀k∈F1++F2,k<m):(F1++(m::F2)).Nodup:=
 (List.perm_middle (a:=m) (l₁:=F1) (l₂:=F2)).nodup_iff.2 (List.nodup_cons.2 ⟨λh=>by have:=hl m h;omega,h⟩)
theorem tj{A B q C:List Nat}(h:(A++(B++C)).Nodup)(hl:∀k∈A++(B++C),k<m)(aS:q.Nodup)(hn:∀k∈q,k∈B\/m<=k):(A++(q++C)).Nodup:=by
 have ac:=List.nodup_append.1 h;have ax:=List.nodup_append.1 ac.2.1;refine List.nodup_append.2 ⟨ac.1,List.nodup_append.2 ⟨aS,ax.2.1,λx hx y bb c=>?_⟩,λx hx y bb c=>?_⟩
 .subst c;rcases hn x hx with a1|a1
  .exact ax.2.2 x a1 x bb rfl
  .have:=hl x (by simp[bb]);omega
 .subst c;rcases LL.1 bb with bb|bb
  .rcases hn x bb with a1|a1
   .exact ac.2.2 x hx x (by simp[a1]) rfl
   .have:=hl x (by simp[hx]);omega
  .exact ac.2.2 x hx x (by simp[bb]) rfl
section
variable {a:Act} {w:World} {K:Act->World->Prop} {Q:Exit->Act->World->Prop} {dst:Option Nat} {ty:TypeId} {p:String} {aq:Array Edge}
theorem Fm(h:K (a.put dst (.slice (some ⟨w.heap.size,0,none⟩) 0 0)) (w.alloc (.cells #[] 3))):Oper.wp prog ⟨dst,.buildSlice 22 0 #[],ty,p,aq,none⟩ a w K Q:=by
 go_simp;exact h
theorem IG(h:K (a.put dst (.slice (some ⟨w.heap.size,0,none⟩) 0 0)) (w.alloc (.cells #[] 95))):Oper.wp prog ⟨dst,.buildSlice 27 0 #[],ty,p,aq,none⟩ a w K Q:=by
 go_simp;exact h
theorem IH(h:K (a.put dst (.slice (some ⟨w.heap.size,0,none⟩) 0 0)) (w.alloc (.cells #[] 49))):Oper.wp prog ⟨dst,.buildSlice 28 0 #[],ty,p,aq,none⟩ a w K Q:=by
 go_simp;exact h
theorem IF(h:K (a.put dst (.pointer (some ⟨w.heap.size,0,none⟩))) (w.alloc (.cells #[.slice none 0 0,.slice none 0 0,.slice none 0 0,.int .i64 0] 30))):Oper.wp prog ⟨dst,.alloc 30,ty,p,aq,none⟩ a w K Q:=by
 go_simp;exact h
end
theorem iB.begin{z:Nat}{w:World}(h:iB e z n xs w 0 v1 v2 F)(hw:w.alloc (.cells #[] e)=ab):F=[]/\v2=undef/\iB e z n xs ab 1 (.slice (some ⟨w.heap.size,0,none⟩) 0 0) v2 [w.heap.size]:=by
 rcases h with⟨_,_,ax,a1⟩|⟨h,_⟩|⟨h,_⟩
 .subst hw;exact⟨a1,ax,.inr (.inl ⟨rfl,ax,_,rfl,⟨World.ownsRow_made w #[] 0 (L3 _) (L3 _) (by simp),rfl⟩⟩)⟩
 .cases h
 .cases h
theorem iB.fill{P:Program}{t:TypeId}{z:Value}{size bytes:Nat}{w:World}(h:iB e size n xs w 1 v1 v2 F){o:Oper}{a:Act}{K:Act->World->Prop}{Q:Exit->Act->World->Prop}(bO:cm P t e z size bytes)(s x:Operand)
  (bn:o.op=.call {callee:=.builtin .append,args:=#[s,x],argTypes:=#[t,t]}) (hs:a.eval s=v1) {A:Mk} {c:Nat} (hx:a.eval x=.slice A n c) (a9:Src w size A n xs) (O:n*bytes<=140737488355328) (y:n<=140737488355328) (d:A=none->n=0)
  (hK:∀v ab Y,iB e size n xs ab 2 v1 v Y->Fr (λk=>k∈F) w ab->Y.Nodup->(∀k∈Y,(k∈F\/w.heap.size<=k)/\k<ab.heap.size)->K (a.put o.dst v) ab):o.wp P a w K Q:=by
 rcases h with⟨h,_⟩|⟨_,_,B,bG,u⟩|⟨h,_⟩
 .cases h
 .rw[bG] at hs;refine kn _ bO s x bn 0 _ 0 [] hs u.row A n c xs hx a9 (by rw[LW];exact O) ad (L3 _) d λG ab bR cR H=>?_;simp only[LW,L8] at bR;obtain⟨I,aD,rfl,hc,_⟩:=bH bR;refine hK _ ab (bx I n aD) (.inr (.inr ⟨rfl,I,aD,rfl,bR,rfl⟩)) (Mg.grown cR λg aY=>.inl (by rw[u.eq];simp[aY])) (fb _ _ _) λb O=>?_;have a4:(Value.slice I n aD).ownBlock=some b:=by simpa using O
  refine⟨?_,(bR.lt b a4).2⟩;rcases H with H|H
  .rw[H] at a4;exact .inl (by rw[u.eq];simp[a4])
  .rw[H] at a4;injection a4 with a4;right;omega
 .cases h
section
variable {ops:Array Oper} {Q:Exit->Act->World->Prop} {W:World} {s:ai} {gn tn hn gc tc hc:Nat} {GA TA HA:Mk} {hx:List Value} {ws:Nat} {aa:Value->Value->Value->Value->Value->Value->Value->Act}
 {p0 p3 p4 p7 p8 p11 p15:String} {a0 a3 a4 a7 a8 a11 a15:Array Edge} {t15:TypeId}
theorem hg.dr{bI b9:List Nat}:k∈F1++(F2++(bI++b9))↔k∈F1\/k∈F2\/k∈bI\/k∈b9:=by simp only[LL]
theorem World.k3(w:World)(o:Obj):(w.alloc o).heap.size=w.heap.size+1:=by first|(simp;done)|(cases o<;>simp;done)|(unfold World.alloc;simp;done)|rfl
theorem hg.fH{w:World}{M:List Nat}(J:Fr (λk=>k∈M) w ab)(ap:∀k∈F,k<w.heap.size)(hd:∀k∈F,k∉M):∀k∈F,ab.heap[k]?=w.heap[k]?:=λk aj=>J.block k (ap k aj) (hd k aj)
theorem FG(hG:Sl W (av W) GA gn (s.globals.map D.i))(hT:Sl W (av W) TA tn (s.table.map mf))(hH:Src W 1 HA hn hx)(J4:HA=none->hn=0)(vz:gn<=100000)(vA:tn<=100000)(uz:hn<=100000)(ns:ws<=W.heap.size)
  (o0:ops[0]?=some ⟨some 7,.buildSlice 22 0 #[],22,p0,a0,none⟩)
  (o3:ops[3]?=some ⟨some 10,.call {callee:=.builtin .append,args:=#[.tmp 7,.tmp 9],argTypes:=#[22,22]},22,p3,a3,none⟩)
  (o4:ops[4]?=some ⟨some 11,.buildSlice 27 0 #[],27,p4,a4,none⟩)
  (o7:ops[7]?=some ⟨some 14,.call {callee:=.builtin .append,args:=#[.tmp 11,.tmp 13],argTypes:=#[27,27]},27,p7,a7,none⟩)
  (o8:ops[8]?=some ⟨some 15,.buildSlice 28 0 #[],28,p8,a8,none⟩)
  (J7:ops[11]?=some ⟨some 18,.call {callee:=.builtin .append,args:=#[.tmp 15,.tmp 17],argTypes:=#[28,28]},28,p11,a11,none⟩)
  (J8:ops[15]?=some ⟨some 5,.alloc 30,t15,p15,a15,none⟩)
  (q5:∀a b c d e f g x,(aa a b c d e f g).put (some 5) x=aa x b c d e f g) (q7:∀a b c d e f g x,(aa a b c d e f g).put (some 7) x=aa a x c d e f g) (Fp:∀a b c d e f g x,(aa a b c d e f g).put (some 10) x=aa a b x d e f g)
  (JE:∀a b c d e f g x,(aa a b c d e f g).put (some 11) x=aa a b c x e f g) (Ki:∀a b c d e f g x,(aa a b c d e f g).put (some 14) x=aa a b c d x f g) (Kj:∀a b c d e f g x,(aa a b c d e f g).put (some 15) x=aa a b c d e x g) (Kk:∀a b c d e f g x,(aa a b c d e f g).put (some 18) x=aa a b c d e f x)
  (e7:∀a b c d e f g,(aa a b c d e f g).eval (.tmp 7)=b) (e9:∀a b c d e f g,(aa a b c d e f g).eval (.tmp 9)=.slice GA gn gc) (JX:∀a b c d e f g,(aa a b c d e f g).eval (.tmp 11)=d) (JY:∀a b c d e f g,(aa a b c d e f g).eval (.tmp 13)=.slice TA tn tc)
  (JZ:∀a b c d e f g,(aa a b c d e f g).eval (.tmp 15)=f) (J0:∀a b c d e f g,(aa a b c d e f g).eval (.tmp 17)=.slice HA hn hc)
  (ia:∀b bn bJ v10 v11 aH aJ aI F1 F2 bI b9 w,hg W s gn tn hn hx w 2 2 2 b bn bJ v10 v11 aH aJ aI F1 F2 bI b9->cR prog ops Q (Fr (λk=>¬k<ws)) [16] (.free 14 (Hq b)) (aa bn bJ v10 v11 aH aJ aI) w) :
  ∀(n g t h:Nat) (b:Bool),g<=2->t<=2->h<=2->(t=2->g=2)->(h=2->t=2)->7<n+g+t+h+b.toNat->∀bn bJ v10 v11 aH aJ aI F1 F2 bI b9 w,hg W s gn tn hn hx w g t h b bn bJ v10 v11 aH aJ aI F1 F2 bI b9->
   cR prog ops Q (Fr (λk=>¬k<ws)) [16] (ju n g t h b) (aa bn bJ v10 v11 aH aJ aI) w:=by
 intro n
 induction n with
 | zero=>intro g t h b aY ht ag _ _ hn;cases b<;>simp at hn<;>omega
 | succ n aq=>
  intro g t h b aY ht ag cb E J bn bJ v10 v11 aH aJ aI F1 F2 bI b9 w hS;unfold ju;by_cases ax:h=2
  .have ct:=E ax;have an:=cb ct;subst ax ct an;exact ia _ _ _ _ _ _ _ _ _ _ _ _ _ hS
  have bg:(h == 2)=false:=by simpa using ax
  rw[bg];have bm:=hS.lo;have af:=hS.ext.size;have ap:∀k∈F1++(F2++(bI++b9)),k<w.heap.size:=λk aj=>(bm k aj).2;have z:∀o:Obj,Fr (λk=>¬k<ws) w (w.alloc o):=λo=>Mg.alloc o;have m:∀(o:Obj) (k:Nat),k<w.heap.size->(w.alloc o).heap[k]?=w.heap[k]?:=λo k aj=>Below.heap_alloc w o k aj;have U:∀o:Obj,(w.alloc o).heap.size=w.heap.size+1:=λo=>World.k3 w o;intro i al;simp only[x2,LL] at al;rcases al with al|al|al|al|al|al|al
  ·
   cases u:(g == 0) with
   | false=>rw[u] at al;exact absurd al (by simp)
   | true=>
   rw[u] at al;have cT:g=0:=by simpa using u
   have i0:i=0:=by simpa using al
   subst cT i0;obtain⟨y,_,a9⟩:=hS.g.begin rfl;subst y;refine⟨_,o0,λK hK=>?_⟩;rw[if_pos (by rfl)];refine Fm (hK _ _ (λ_=>z _) ?_);rw[q7];refine aq 1 t h b ad ht ag ad E ad _ _ _ _ _ _ _ [w.heap.size] F2 bI b9 _ ⟨hS.ext.alloc _,a9,hS.t.ak λk aj=>m _ k (ap k (hg.dr.2 (by simp[aj]))),hS.h.ak λk aj=>m _ k (ap k (hg.dr.2 (by simp[aj]))),?_,?_,?_⟩
   .rcases hS.o with ac|⟨ac,N,a1,aU,cy⟩
    .exact .inl ac
    .exact .inr ⟨ac,N,a1,aU,cy.alloc _⟩
   .exact qz (F1:=[]) hS.nd ap
   .intro k aj;rw[U];simp only[LL,LS,List.not_mem_nil,or_false] at aj;rcases aj with aj|aj
    .omega
    .have:=bm k (by simpa using aj);omega
  ·
   cases u:(g == 1) with
   | false=>rw[u] at al;exact absurd al (by simp)
   | true=>
   rw[u] at al;have ce:g=1:=by simpa using u
   subst ce;have i0:i=3:=by simpa using al
   subst i0;refine⟨_,o3,λK hK=>?_⟩;rw[if_pos (by rfl)];refine iB.fill hS.g cU (.tmp 7) (.tmp 9) rfl (e7 _ _ _ _ _ _ _) (e9 _ _ _ _ _ _ _) (by have:=Src.lT (hG.on (Fr.ext hS.ext)).ints (ho _) (m0 _) ad;rwa [uq] at this) ad ad (λh=>by subst h;exact hG.none_) (λv ab Y a9 b3 aK r=>?_);have cj:=b3.size;have l:∀k∈F1,W.heap.size<=k:=λk aj=>(bm k (hg.dr.2 (by simp[aj]))).1;have R:Ext W ab:=Fr.low (M:=λk=>k∈F1) (Fr.trans (Fr.mono hS.ext λ_ h=>h.elim) b3) l;refine hK _ _ (λ_=>b3.mono λk aj=>by have:=l k aj;omega) ?_;rw[Fp];have j:∀k,k∈F1++(F2++(bI++b9))->k∉F1->ab.heap[k]?=w.heap[k]?:=λk aj hn=>b3.block k (ap k aj) hn;have n1:=List.nodup_append.1 hS.nd;have n2:=List.nodup_append.1 n1.2.1;have n3:=List.nodup_append.1 n2.2.1;refine aq 2 t h b ad ht ag ad E ad _ _ _ _ _ _ _ Y F2 bI b9 _ ⟨R,a9,hS.t.ak (λk aj=>j k (hg.dr.2 (by simp[aj])) (λac=>n1.2.2 k ac k (by simp[aj]) rfl)),hS.h.ak (λk aj=>j k (hg.dr.2 (by simp[aj])) (λac=>n1.2.2 k ac k (by simp[aj]) rfl)),?_,?_,?_⟩
   .rcases hS.o with ac|⟨ac,N,a1,aU,cy⟩
    .exact .inl ac
    .have q:∀k∈b9,k∉F1:=λk aj=>λac=>n1.2.2 k ac k (by simp[aj]) rfl;exact .inr ⟨ac,N,a1,aU,show _=_ from (j N (hg.dr.2 (by simp[aU])) (q N (by simp[aU]))).trans cy⟩
   .exact tj (A:=[]) hS.nd ap aK λk aj=>(r k aj).1
   .intro k aj;rcases hg.dr.1 aj with aj|aj|aj|aj
    .have:=r k aj;have:W.heap.size<=k:=by rcases this.1 with ac|ac;exact l k ac;omega
     omega
    .have:=bm k (hg.dr.2 (by simp[aj]));omega
    .have:=bm k (hg.dr.2 (by simp[aj]));omega
    .have:=bm k (hg.dr.2 (by simp[aj]));omega
  ·
   cases u:(t == 0) with
   | false=>rw[u] at al;exact absurd al (by simp)
   | true=>
   rw[u] at al;have cT:t=0:=by simpa using u
   have i0:i=4:=by simpa using al
   subst cT i0;obtain⟨y,_,a9⟩:=hS.t.begin rfl;subst y;refine⟨_,o4,λK hK=>?_⟩;rw[if_pos (by rfl)];refine IG (hK _ _ (λ_=>z _) ?_);rw[JE];refine aq g 1 h b aY ad ag ad (λh=>ad) ad _ _ _ _ _ _ _ F1 [w.heap.size] bI b9 _ ⟨hS.ext.alloc _,hS.g.ak λk aj=>m _ k (ap k (hg.dr.2 (by simp[aj]))),a9,hS.h.ak λk aj=>m _ k (ap k (hg.dr.2 (by simp[aj]))),?_,?_,?_⟩
   .rcases hS.o with ac|⟨ac,N,a1,aU,cy⟩
    .exact .inl ac
    .exact .inr ⟨ac,N,a1,aU,cy.alloc _⟩
   .exact qz (F1:=F1) hS.nd ap
   .intro k aj;rw[U];rcases hg.dr.1 aj with aj|aj|aj|aj
    .have:=bm k (hg.dr.2 (by simp[aj]));omega
    .have:=Ma.1 aj;omega
    .have:=bm k (hg.dr.2 (by simp[aj]));omega
    .have:=bm k (hg.dr.2 (by simp[aj]));omega
  ·
   cases u:(t == 1 && g == 2) with
   | false=>rw[u] at al;exact absurd al (by simp)
   | true=>
   rw[u] at al;simp only[LO,beq_iff_eq] at u;obtain⟨t1,g2⟩:=u;subst t1 g2;have i0:i=7:=by simpa using al
   subst i0;refine⟨_,o7,λK hK=>?_⟩;rw[if_pos (by rfl)];refine iB.fill hS.t mH (.tmp 11) (.tmp 13) rfl (JX _ _ _ _ _ _ _) (JY _ _ _ _ _ _ _) (Src.lT (hT.on (Fr.ext hS.ext)).holds (eI _) (lF _) ad) ad ad (λh=>by subst h;exact hT.none_) (λv ab Y a9 b3 aK r=>?_);have cj:=b3.size;have l:∀k∈F2,W.heap.size<=k:=λk aj=>(bm k (hg.dr.2 (by simp[aj]))).1;have R:Ext W ab:=Fr.low (M:=λk=>k∈F2) (Fr.trans (Fr.mono hS.ext λ_ h=>h.elim) b3) l;refine hK _ _ (λ_=>b3.mono λk aj=>by have:=l k aj;omega) ?_;rw[Ki];have j:∀k,k∈F1++(F2++(bI++b9))->k∉F2->ab.heap[k]?=w.heap[k]?:=λk aj hn=>b3.block k (ap k aj) hn;have n1:=List.nodup_append.1 hS.nd;have n2:=List.nodup_append.1 n1.2.1;have n3:=List.nodup_append.1 n2.2.1;refine aq 2 2 h b aY ad ag ad ad ad _ _ _ _ _ _ _ F1 Y bI b9 _ ⟨R,hS.g.ak (λk aj=>j k (hg.dr.2 (by simp[aj])) (λac=>n1.2.2 k aj k (by simp[ac]) rfl)),a9,hS.h.ak (λk aj=>j k (hg.dr.2 (by simp[aj])) (λac=>n2.2.2 k ac k (by simp[aj]) rfl)),?_,?_,?_⟩
   .rcases hS.o with ac|⟨ac,N,a1,aU,cy⟩
    .exact .inl ac
    .have q:∀k∈b9,k∉F2:=λk aj=>λac=>n2.2.2 k ac k (by simp[aj]) rfl;exact .inr ⟨ac,N,a1,aU,show _=_ from (j N (hg.dr.2 (by simp[aU])) (q N (by simp[aU]))).trans cy⟩
   .exact tj (A:=F1) hS.nd ap aK λk aj=>(r k aj).1
   .intro k aj;rcases hg.dr.1 aj with aj|aj|aj|aj
    .have:=bm k (hg.dr.2 (by simp[aj]));omega
    .have:=r k aj;have:W.heap.size<=k:=by rcases this.1 with ac|ac;exact l k ac;omega
     omega
    .have:=bm k (hg.dr.2 (by simp[aj]));omega
    .have:=bm k (hg.dr.2 (by simp[aj]));omega
  ·
   cases u:(h == 0) with
   | false=>rw[u] at al;exact absurd al (by simp)
   | true=>
   rw[u] at al;have cT:h=0:=by simpa using u
   have i0:i=8:=by simpa using al
   subst cT i0;obtain⟨y,_,a9⟩:=hS.h.begin rfl;subst y;refine⟨_,o8,λK hK=>?_⟩;rw[if_pos (by rfl)];refine IH (hK _ _ (λ_=>z _) ?_);rw[Kj];refine aq g t 1 b aY ht ad cb ad ad _ _ _ _ _ _ _ F1 F2 [w.heap.size] b9 _ ⟨hS.ext.alloc _,hS.g.ak λk aj=>m _ k (ap k (hg.dr.2 (by simp[aj]))),hS.t.ak λk aj=>m _ k (ap k (hg.dr.2 (by simp[aj]))),a9,?_,?_,?_⟩
   .rcases hS.o with ac|⟨ac,N,a1,aU,cy⟩
    .exact .inl ac
    .exact .inr ⟨ac,N,a1,aU,cy.alloc _⟩
   .have:=qz (F1:=F1++F2) (F2:=b9) (by simpa using hS.nd) (by simpa using ap);simpa using this
   .intro k aj;rw[U];rcases hg.dr.1 aj with aj|aj|aj|aj
    .have:=bm k (hg.dr.2 (by simp[aj]));omega
    .have:=bm k (hg.dr.2 (by simp[aj]));omega
    .have:=Ma.1 aj;omega
    .have:=bm k (hg.dr.2 (by simp[aj]));omega
  ·
   cases u:(h == 1 && t == 2) with
   | false=>rw[u] at al;exact absurd al (by simp)
   | true=>
   rw[u] at al;simp only[LO,beq_iff_eq] at u;obtain⟨ac,t2⟩:=u;have g2:=cb t2;subst ac t2 g2;have i0:i=11:=by simpa using al
   subst i0;refine⟨_,J7,λK hK=>?_⟩;rw[if_pos (by rfl)];refine iB.fill hS.h sR (.tmp 15) (.tmp 17) rfl (JZ _ _ _ _ _ _ _) (J0 _ _ _ _ _ _ _) (hH.on (Fr.ext hS.ext)) ad ad J4 (λv ab Y a9 b3 aK r=>?_);have cj:=b3.size;have l:∀k∈bI,W.heap.size<=k:=λk aj=>(bm k (hg.dr.2 (by simp[aj]))).1;have R:Ext W ab:=Fr.low (M:=λk=>k∈bI) (Fr.trans (Fr.mono hS.ext λ_ h=>h.elim) b3) l;refine hK _ _ (λ_=>b3.mono λk aj=>by have:=l k aj;omega) ?_;rw[Kk];have j:∀k,k∈F1++(F2++(bI++b9))->k∉bI->ab.heap[k]?=w.heap[k]?:=λk aj hn=>b3.block k (ap k aj) hn;have n1:=List.nodup_append.1 hS.nd;have n2:=List.nodup_append.1 n1.2.1;have n3:=List.nodup_append.1 n2.2.1;refine aq 2 2 2 b aY ht ad ad ad ad _ _ _ _ _ _ _ F1 F2 Y b9 _ ⟨R,hS.g.ak (λk aj=>j k (hg.dr.2 (by simp[aj])) (λac=>n1.2.2 k aj k (by simp[ac]) rfl)),hS.t.ak (λk aj=>j k (hg.dr.2 (by simp[aj])) (λac=>n2.2.2 k aj k (by simp[ac]) rfl)),a9,?_,?_,?_⟩
   .rcases hS.o with ac|⟨ac,N,a1,aU,cy⟩
    .exact .inl ac
    .have q:∀k∈b9,k∉bI:=λk aj=>λac=>n3.2.2 k ac k aj rfl;exact .inr ⟨ac,N,a1,aU,show _=_ from (j N (hg.dr.2 (by simp[aU])) (q N (by simp[aU]))).trans cy⟩
   .have:=tj (A:=F1++F2) (B:=bI) (C:=b9) (by simpa using hS.nd) (by simpa using ap) aK (λk aj=>(r k aj).1);simpa using this
   .intro k aj;rcases hg.dr.1 aj with aj|aj|aj|aj
    .have:=bm k (hg.dr.2 (by simp[aj]));omega
    .have:=bm k (hg.dr.2 (by simp[aj]));omega
    .have:=r k aj;have:W.heap.size<=k:=by rcases this.1 with ac|ac;exact l k ac;omega
     omega
    .have:=bm k (hg.dr.2 (by simp[aj]));omega
  ·
   cases b with
   | true=>simp at al
   | false=>
   have i0:i=15:=by simpa using al
   subst i0;refine⟨_,J8,λK hK=>?_⟩;rw[if_pos (by rfl)];refine IF (hK _ _ (λ_=>z _) ?_);rw[q5];have aU:b9=[]:=by
    rcases hS.o with⟨_,_,h⟩|⟨h,_⟩
    .exact h
    .cases h
   subst aU;refine aq g t h true aY ht ag cb E (by simp at J ⊢;omega) _ _ _ _ _ _ _ F1 F2 bI [w.heap.size] _ ⟨hS.ext.alloc _,hS.g.ak λk aj=>m _ k (ap k (hg.dr.2 (by simp[aj]))),hS.t.ak λk aj=>m _ k (ap k (hg.dr.2 (by simp[aj]))),hS.h.ak λk aj=>m _ k (ap k (hg.dr.2 (by simp[aj]))),.inr ⟨rfl,_,rfl,rfl,Mh⟩,?_,?_⟩
   .have:=qz (F1:=F1++(F2++bI)) (F2:=[]) (by simpa using hS.nd) (by simpa using ap);simpa using this
   .intro k aj;rw[U];rcases hg.dr.1 aj with aj|aj|aj|aj
    .have:=bm k (hg.dr.2 (by simp[aj]));omega
    .have:=bm k (hg.dr.2 (by simp[aj]));omega
    .have:=bm k (hg.dr.2 (by simp[aj]));omega
    .have:=Ma.1 aj;omega
end
end Go.Proofs.YtflecliffjbleaaGreat

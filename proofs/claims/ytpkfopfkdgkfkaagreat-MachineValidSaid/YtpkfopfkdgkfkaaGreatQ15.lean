/- Part 15 of the proof. No condition of its own. -/
import Derived.Test.YtpkfopfkdgkfkaaGreatQ14
namespace Go.Proofs.YtpkfopfkdgkfkaaGreat
open Go.RowKit Go.Proofs.Tryz
set_option maxRecDepth 1000000
set_option maxHeartbeats 25600000
set_option linter.unusedVariables false
variable{t:Int}{F F1 F2:List Nat}{xs:List Value}{fs:List al}{B N k m n:Nat}{e:TypeId}{v1 v2:Value}{ab:World}{u:aA}{x:aC}{f:al}
theorem aW.tok{s:ak}(h:aW u N s)(hN:N<=100000):FX u.af s.table:=by
 refine⟨h.table,λx hx=>?_⟩;obtain⟨i,aX⟩:=List.getElem?_of_mem hx;have ah:=h.holds i x aX;have:=ah.owner;have:=ah.depth;have:=h.vk;omega
theorem dI.I8{B:Nat}{w X:World}{s:ak}{N:Nat}{q:SV}{xs:List Value}{F1 F2 bL cd:List Nat}(h:dI B w s N q xs F1 F2 bL cd){T:List cx}{a1:Mt}{m L:Nat}(hT:w.ownsRow 0 79 2 (.slice a1 m L) m (T.flatMap bO))(hl:m=T.length)
  (hd:∀b∈br a1 m L,b∉F1++(F2++(bL++cd))/\b≠N/\B<=b) (hX:w.setCell ⟨N,1,none⟩ (.slice a1 m L)=X):dI B X {s with table:=T} N ⟨q.GA,q.gn,q.gc,a1,m,L,q.HA,q.hn,q.hc⟩ xs F1 (br a1 m L) bL cd:=by
 have ac:=h.st.I8 hT hl λb O=>(hd b O).1;have an:∀b∈br a1 m L,b<w.heap.size:=λb O=>(hT.lt b (by simpa using O)).2;have cn:∀b,b∈F1++(br a1 m L++(bL++cd))->B<=b/\b<w.heap.size/\b≠N:=λb O=>by
  simp only[LU] at O;have ah:∀b,b∈F1++(F2++(bL++cd))->B<=b/\b<w.heap.size/\b≠N:=λb O=>⟨(h.lo b O).1,(h.lo b O).2,λhe=>h.ne (he▸O)⟩
  rcases O with O|O|O|O
  .exact ah b (by simp[O])
  .exact⟨(hd b O).2.2,an b O,(hd b O).2.1⟩
  .exact ah b (by simp[O])
  .exact ah b (by simp[O])
 subst hX;refine⟨ac.ai λb O=>aQ (cn b O).2.2,?_,λaR=>(cn N aR).2.2 rfl,λb O=>⟨(cn b O).1,by simpa[World.setCell] using (cn b O).2.1⟩,h.go⟩;exact h.o.aN 1 _
structure KX(u:aA)(s:ak)(t:Int)(f:al)(x:aC)(r:Int×Int):Prop where
 bad:r.2≠0->b5 u s t f x=({s with fault:=r.2},true)
 lf:r.2=0->x.op=4->free u.af s.table r.1 t=true->b5 u s t f x=({bt s t (next f) with table:=fL u.af s.table r.1 t},true)
 ln:r.2=0->x.op=4->free u.af s.table r.1 t=false->b5 u s t f x=(s,false)
 uf:r.2=0->x.op=5->heldBy u.af s.table r.1 t=true->b5 u s t f x=({bt s t (next f) with table:=c5 u.af s.table r.1 t},true)
 un:r.2=0->x.op=5->heldBy u.af s.table r.1 t=false->b5 u s t f x=({s with fault:=3},true)
theorem KM{s:ak}(cw:x.op=4\/x.op=5):KX u s t f x (bH u s f x.place):=by
 have h0:b5 u s t f x=(if (bH u s f x.place).2≠0 then ({s with fault:=(bH u s f x.place).2},true)
  else if x.op=4 then (if free u.af s.table (bH u s f x.place).1 t then ({bt s t (next f) with table:=fL u.af s.table (bH u s f x.place).1 t},true) else (s,false))
  else (if heldBy u.af s.table (bH u s f x.place).1 t then ({bt s t (next f) with table:=c5 u.af s.table (bH u s f x.place).1 t},true) else ({s with fault:=3},true))):=by
  unfold b5;rw[if_neg ad,if_neg ad,if_pos cw]
 generalize bH u s f x.place=r at *;refine⟨λh=>?_,λh ac ap=>?_,λh ac ap=>?_,λh ac ap=>?_,λh ac ap=>?_⟩
 .rw[h0,if_pos h]
 .rw[h0,if_neg ad,if_pos ac,if_pos ap]
 .rw[h0,if_neg ad,if_pos ac,if_neg (by simp[ap])]
 .rw[h0,if_neg ad,if_neg ad,if_pos ap]
 .rw[h0,if_neg ad,if_neg ad,if_neg (by simp[ap])]
namespace CG
theorem Ax{p:Prop}(h:p:=by
 obtain⟨bs,a9,bf⟩:=bA (w:=w) [.slice bg bJ aY,.slice a1 m L,.slice a4 cu S,z] (by rfl) a3.1 a3.2 ad hX;have i:=ag a9 bf;clear hX a9 bf bl aD aP;obtain⟨bl,aD,aP⟩:=bs.two;refine Mn (v:=.tuple #[.agg #[.slice bg bJ aY,.slice a1 m L,.slice a4 cu S,z],true]) (by simp[results,Tryz.results52,go_sem,bl]) rfl ?_;rw[b3.o];show cX mP w {s with fault:=z} true _ _
 exact eH (Q:={s with fault:=z}) (q:=⟨bg,bJ,aY,a1,m,L,a4,cu,S⟩) da.o i.2 (λb O=>ad) ad i.1
 ):p:=h
theorem AX{p:Prop}(h:p:=by
 refine(qe u s t f x.place N W ⟨GA,gn,gc,MA,mn,mc,PA,pn,pc⟩ ⟨bV,bW,bD,TA,tn,tc,HA,hn,hc⟩ QA qm qc ⟨aN.hU.ok,aN.hS,aN.sm,aN.ht,⟨cn,aN.hp,ct.1⟩,ah.2.2.2.2.2.1,ah.2.2.2.2.2.2.1,ah.2.2.2.2.2.2.2.place⟩).mono ?_;rintro e aS ⟨rfl,b0⟩;rw[iD aN.ht];have aO:Ext W aS:=Fr.of b0;have bn:=ct.2.2.2;generalize bH u s f x.place=R at *;obtain⟨ap,z⟩:=R;have bp:=ae bn;clear bn b0 a0 ai af bq am aG d0 aK aM;have cN:=ah.1.size;have dx:=ah.2.2.2.2.1.lt;have bB:=ae aO;have cq:=aO.size;obtain⟨a0,ai,af⟩:=(ah.2.1.aj aO).two;obtain⟨bq,am,aG⟩:=(ah.2.2.1.aj aO).two;obtain⟨d0,aK,aM⟩:=(ah.2.2.2.1.aj aO).two;clear aO;by_cases aL:z=0
 case neg=>
  have b3:=ae (K.bad aL);have q1:(z != 0)=true:=by simpa using aL
  clear aL K bp;go_wp2_with(fail);refine(ll s ⟨bV,bW,bD,TA,tn,tc,HA,hn,hc⟩ z aS (ah.2.2.2.2.2.2.1.on bB.o) aN.sm).mono ?_;exact Aw
 have q1:(z != 0)=false:=by simpa using aL
 have aF:=bp.2 aL;have aB:=l2 aN.hU.ok;have aV:ap<=5000:=by simp only at aF;omega
 have bk:=ae aL;clear aL aF aB;by_cases bz:x.op=4
 .have dk:(x.op == 4)=true:=by simpa using bz
  have q5:(x.op == 5)=false:=by simp;omega
  have bw:=ae (K.lf bk.o bz);have aR:=ae (K.ln bk.o bz);clear bz K;go_wp2_with(fail);refine(ER MA TA mn mc tn tc u.af s.table ap t aS (ah.2.2.2.2.2.1.on bB.o).at_.m.mM aN.hU.ok.wK (ah.2.2.2.2.2.2.1.on bB.o).at_.t.holds ct.2.1 ad ad).mono ?_;intro e aT aj;obtain⟨I,aE,rfl,bm,cf,ao,bj⟩:=aj.open_ (n:=tn) (by rw[fq];exact bN.2.2.2.2.symm);have aW:tn=(fL u.af s.table ap t).length:=by rw[fq];exact bN.2.2.2.2
  have aa:=ag ao aW;have a8:=ae (show Ext W aT from bB.trans (Fr.of bj));have bS:=bj.size;generalize hT:fL u.af s.table ap t=T at *;clear aj cf ao bj aW hT a0 ai af bq am aG d0 aK aM;obtain⟨bq,am,aG⟩:=(ah.2.2.1.aj a8.o).two;obtain⟨d0,aK,aM⟩:=(ah.2.2.2.1.aj a8.o).two
  cases cg:free u.af s.table ap t with
  | true=>
   exact Hb
  | false=>
   have b3:=ae (aR.o cg);clear bw aR;go_wp2_with(fail);refine(s7 s ⟨bV,bW,bD,TA,tn,tc,HA,hn,hc⟩ aT (ah.2.2.2.2.2.2.1.on a8.o) aN.sm).mono ?_;rintro e b7 ⟨⟨bg,bJ,aY,a1,m,L,a4,cu,S⟩,rfl,ca,a7⟩;have da:=ae ca;have cE:=(ah.2.2.2.2.1.aj a8.o).aj a7;have a3:=ag cE ((ah.1.trans a8.o).trans a7);clear ca a7 bq am aG d0 aK aM;obtain⟨bl,aD,aP⟩:=cE.two;clear cE;go_wp2_with(fail);generalize hX:World.setCell _ _ _=Z;obtain⟨bs,a9,bf⟩:=bA (w:=w) [.slice bg bJ aY,.slice a1 m L,.slice a4 cu S,.int .i64 s.fault] (by rfl) a3.1 a3.2 ad hX;have i:=ag a9 bf;clear hX a9 bf bl aD aP;obtain⟨bl,aD,aP⟩:=bs.two;refine Mn (v:=.tuple #[.agg #[.slice bg bJ aY,.slice a1 m L,.slice a4 cu S,.int .i64 s.fault],false]) (by simp[results,Tryz.results52,go_sem,bl]) rfl ?_;rw[b3.o];show cX mP w s false _ _
   exact eH (Q:=s) (q:=⟨bg,bJ,aY,a1,m,L,a4,cu,S⟩) (da.mono λb O=>.inr O) i.2 (λb O=>ad) ad i.1
 .have cI:x.op=5:=ad;have dk:(x.op == 4)=false:=by simpa using bz
  have q5:(x.op == 5)=true:=by simpa using cI
  have bw:=ae (K.uf bk.o cI);have aR:=ae (K.un bk.o cI);clear bz cI K;go_wp2_with(fail);refine(xv MA TA mn mc tn tc u.af s.table ap t aS aN.hU.ok.wK (ah.2.2.2.2.2.2.1.on bB.o).at_.t.holds ct.2.1 ad).mono ?_;intro e aT aj;obtain⟨I,aE,rfl,bm,cf,ao,bj⟩:=aj.open_ (n:=tn) (by rw[fj];exact bN.2.2.2.2.symm);have aW:tn=(c5 u.af s.table ap t).length:=by rw[fj];exact bN.2.2.2.2
  have aa:=ag ao aW;have a8:=ae (show Ext W aT from bB.trans (Fr.of bj));have bS:=bj.size;generalize hT:c5 u.af s.table ap t=T at *;clear aj cf ao bj aW hT a0 ai af bq am aG d0 aK aM;obtain⟨bq,am,aG⟩:=(ah.2.2.1.aj a8.o).two;obtain⟨d0,aK,aM⟩:=(ah.2.2.2.1.aj a8.o).two
  cases cg:heldBy u.af s.table ap t with
  | true=>
   exact Hb
  | false=>
   have b3:=ae (aR.o cg);clear bw aR;go_wp2_with(fail);refine(ll s ⟨bV,bW,bD,TA,tn,tc,HA,hn,hc⟩ 3 aT (ah.2.2.2.2.2.2.1.on a8.o) aN.sm).mono ?_;rintro e b7 ⟨⟨bg,bJ,aY,a1,m,L,a4,cu,S⟩,rfl,ca,a7⟩;have da:=ae ca;have cE:=(ah.2.2.2.2.1.aj a8.o).aj a7;have a3:=ag cE ((ah.1.trans a8.o).trans a7);clear ca a7 bq am aG d0 aK aM;obtain⟨bl,aD,aP⟩:=cE.two;clear cE;go_wp2_with(fail);generalize hX:World.setCell _ _ _=Z;obtain⟨bs,a9,bf⟩:=bA (w:=w) [.slice bg bJ aY,.slice a1 m L,.slice a4 cu S,(3:Int)] (by rfl) a3.1 a3.2 ad hX;have i:=ag a9 bf;clear hX a9 bf bl aD aP;obtain⟨bl,aD,aP⟩:=bs.two;refine Mn (v:=.tuple #[.agg #[.slice bg bJ aY,.slice a1 m L,.slice a4 cu S,(3:Int)],true]) (by simp[results,Tryz.results52,go_sem,bl]) rfl ?_;rw[b3.o];show cX mP w {s with fault:=3} true _ _
   exact eH (Q:={s with fault:=3}) (q:=⟨bg,bJ,aY,a1,m,L,a4,cu,S⟩) da.o i.2 (λb O=>ad) ad i.1
 ):p:=h
theorem gS{p:Prop}(h:p:=by
 obtain⟨eo,en,es,EA,em,ec,QA,qm,qc,dn,j,dj,KA,cO,kc⟩:=v;have bi:c4 (bx u) cn.locals cn.an x.place:=by
  exact zM
 have ud:tn=s.table.length:=by have:=hs.at_.t.1;simpa using this.symm
 have cB:=h.hS.vk;have cF:t<=1000:=ad;have dB:=h.hS.tok hN;have bn:=jB (s:=s) (nl:=cn.locals) (nk:=f.an.length) h.hU.ok h.hF (Int.le_refl _) (by rw[h.hF.s6 h.hp];exact bi);have dc:=h.pc;have K:=ae (KM (u:=u) (s:=s) (t:=t) (f:=f) (x:=x) cw);have aN:=ae h;have bN:=cL av dl bK ce ud;have ct:=bF bi dB dc bn;have cc:=az hu hs bE;clear h av dl cA bK ce ud bi dB bn dc cB hu hs bE;dsimp only[UV.val,SV.val,IV.val];go_enter func52,ntmps52;exact AW
 ):p:=h
end CG
open CG in
theorem JE(u:aA)(s:ak)(t:Int)(f:al)(cn:cM)(x:aC)(N:Nat)(w:World)(p:UV)(q:SV)(v:IV)(h:jX u s t f cn x N)(hN:N<=100000)(cw:x.op=4\/x.op=5)(hu:p.Ok w u)(hs:q.Ok w s)(bE:v.Ok w x) :
  Calls prog 52 #[.agg (p.val u),.agg (q.val s),t,.agg (v.val x)] w (cX mP w (b5 u s t f x).1 (b5 u s t f x).2):=by
 obtain⟨av,dl,cA,fs,bK,ce⟩:=h.th;exact gR
theorem dI.pop{w:World}{s:ak}{q:SV}{bL cd:List Nat}(h:dI B w s N q xs F1 F2 bL cd)(bK:s.threads[k]?=some (fs++[f])):
  ∃O cm fc,q.HA=some ⟨O,0,none⟩/\k<q.hn/\O<w.heap.size/\O≠N/\B<=O/\(∀j,w.frozen? ⟨O,j,none⟩=false)/\w.cell? ⟨O,k,none⟩=some (.slice (some ⟨cm,0,none⟩) (fs.length+1) fc)/\fs.length+1<=fc/\
   ∀X,w.setCell ⟨O,k,none⟩ (.slice (some ⟨cm,0,none⟩) fs.length fc)=X->∃e d,dI B X {s with threads:=s.threads.set k fs} N q e F1 F2 bL d:=by
 obtain⟨O,cm,fc,IA,i,ic,bw,l,lc,lH,a8,T,ce,aE,bG,aX,hl,hc,aJ,c0,c1,c2,c3,U,a,dc,hints,y⟩:=h.st.top bK;have dt:O∈F1++(F2++(bL++cd)):=by simp[aE]
 refine⟨O,cm,fc,lH,a8,T,λhe=>h.ne (he▸dt),(h.lo _ dt).1,U,hc,aJ,λX hX=>?_⟩;obtain⟨e,d,cz,M⟩:=y;subst hX;have t:∀b,b∈F1++(F2++(bL++d))->b∈F1++(F2++(bL++cd)):=λb O=>by
  simp only[LU] at O ⊢;rcases O with O|O|O|O
  .exact .inl O
  .exact .inr (.inl O)
  .exact .inr (.inr (.inl O))
  .exact .inr (.inr (.inr (M b O)))
 exact⟨e,d,cz,h.o.Kc (λhe=>h.ne (he▸dt)) _,λaR=>h.ne (t _ aR),λb O=>⟨(h.lo b (t b O)).1,by simpa[World.setCell] using (h.lo b (t b O)).2⟩,h.go⟩
theorem dI.drew{B:Nat}{w:World}{s:ak}{N:Nat}{q:SV}{xs:List Value}{F1 F2 bL cd:List Nat}(h:dI B w s N q xs F1 F2 bL cd):dI B w.drew s N q xs F1 F2 bL cd:=h.aj Mo.drew
theorem yf{s:ak}(h:s.threads[t.toNat]?=some (fs++[f])):uA s t={s with threads:=s.threads.set t.toNat fs}:=by
 unfold uA;rw[lp h,kH]
theorem qL{s:ak}(h:ey s t=some f)(hx:ek u s t=some x):cb u s t=b5 u s t f x:=by
 unfold cb;rw[h,hx]
theorem qK{s:ak}(h:ey s t=none):cb u s t=(s,false):=by
 unfold cb;rw[h]
theorem yk{s:ak}(h:x.op=7):b5 u s t f x=(bt s t {f with pc:=x.target},true):=by
 unfold b5;rw[if_neg ad,if_neg ad,if_neg ad,if_pos h]
theorem yl{s:ak}(h:x.op=8):b5 u s t f x=(uA s t,true):=by
 unfold b5;rw[if_neg ad,if_neg ad,if_neg ad,if_neg ad]
namespace CH
theorem BG{p:Prop}(h:p:=by
 have ao:((fs.length:Nat):Int)<=(fc:Int):=ad
 iterate 3 refine pf ?_
 refine ax rfl (λK hK=>?_);go_simp;refine dX hK ?_;clear hK K;refine aF ?_;generalize hX:World.setCell _ _ _=Y;obtain⟨aE,ap,n⟩:=an.o Y hX;have ar:=cp hX;have cD:Ext W Y:=Fr.low (M:=λb=>b=O) (Fr.trans (Fr.mono cB.2.1 λ_ h=>h.elim) ar) λb O=>ad;have G:=ae n;clear hX n ar e0 be a6 d0 aK aM aZ du;have a3:=ag (ah.2.2.2.1.aj cD) (ah.1.trans cD);obtain⟨bl,aD,aP⟩:=a3.1.two;obtain⟨e0,be,a6⟩:=G.o.o.two;clear cD;go_wp2_with(fail);generalize hX:World.setCell _ _ _=Z;obtain⟨bs,a9,bf⟩:=bA (w:=w) [.slice bh bW aY,.slice ab tn L,.slice (some ⟨O,0,none⟩) hn S,.int .i64 s.fault] (by rfl) a3.1 a3.2 ad hX;have bk:=ag a9 bf;clear hX a9 bf bl aD aP e0 be a6;obtain⟨bl,aD,aP⟩:=bs.two;refine Mn (v:=.tuple #[.agg #[.slice bh bW aY,.slice ab tn L,.slice (some ⟨O,0,none⟩) hn S,.int .i64 s.fault],true]) (by simp[results,Tryz.results26,go_sem,bl]) rfl ?_;rw[b3.o];show cX mP w (uA s t) true _ _
 exact g6 (Q:=uA s t) (q:=⟨bh,bW,aY,ab,tn,L,(some ⟨O,0,none⟩),hn,S⟩) G.o bk.2.drew (λb O=>ad) ad bk.1.drew (by rw[yf bN.2.1])
 ):p:=h
theorem dC{p:Prop}(h:p:=by
 generalize hX:World.setCell _ _ _=Y;have n:dI V Y {s with threads:=s.threads.set t.toNat (fs++[{f with pc:=x.target}])} b7.heap.size ⟨bh,bW,aY,ab,tn,L,b9,hn,S⟩ xs F1 F2 bL cd:=hX▸P.pc x.target;have ar:=cp hX;have dH:=P.ge;have cD:Ext W Y:=Fr.low (M:=λb=>b=bU) (Fr.trans (Fr.mono cj.o λ_ h=>h.elim) ar) λb O=>ad;have G:=ae n;clear hX n ar bT g2 cP P;have a3:=ag (ah.2.2.2.1.aj cD) (ah.1.trans cD);obtain⟨bl,aD,aP⟩:=a3.1.two;obtain⟨e0,be,a6⟩:=G.o.o.two;clear cD;go_wp2_with(fail);generalize hX:World.setCell _ _ _=Z;obtain⟨bs,a9,bf⟩:=bA (w:=w) [.slice bh bW aY,.slice ab tn L,.slice b9 hn S,.int .i64 s.fault] (by rfl) a3.1 a3.2 ad hX;have bk:=ag a9 bf;clear hX a9 bf bl aD aP e0 be a6;obtain⟨bl,aD,aP⟩:=bs.two;refine Mn (v:=.tuple #[.agg #[.slice bh bW aY,.slice ab tn L,.slice b9 hn S,.int .i64 s.fault],true]) (by simp[results,Tryz.results26,go_sem,bl]) rfl ?_;rw[b3.o];show cX mP w (bt s t {f with pc:=x.target}) true _ _
 exact g6 (Q:=bt s t {f with pc:=x.target}) (q:=⟨bh,bW,aY,ab,tn,L,b9,hn,S⟩) G.o bk.2 (λb O=>ad) ad bk.1 (by rw[et bN.2.1])
 ):p:=h
end CH
open CH in
theorem HP(u:aA)(s:ak)(t:Int)(N:Nat)(w:World)(p:UV)(q:SV)(hU:tD u)(hS:aW u N s)(hN:N<=100000)(hu:p.Ok w u)(hs:q.Ok w s) :
  Calls prog 26 #[.agg (p.val u),.agg (q.val s),t] w (cX mP w (cb u s t).1 (cb u s t).2):=by
 have HA:=az hU hS (hS.small hU.ok hN);have cc:=ag hu hs;clear hU hS hu hs;obtain⟨GA,gn,gc,MA,mn,mc,PA,pn,pc⟩:=p;obtain⟨bV,bW,bD,TA,tn,tc,a4,hn,hc⟩:=q;dsimp only[UV.val,SV.val];go_enter func26,ntmps26;go_upto_region 1 with(fail);generalize ba:World.alloc _ _=W;have aw:=lD ba;have bI:=jx ba;have bZ:=h6 ba;have cv:=jy ba;have ah:=dm aw bI bZ cv (cc.1.on aw) (cc.2.on aw);have cN:=aw.size;have dx:=cv.lt;obtain⟨a0,ai,af⟩:=bI.two;obtain⟨bq,am,aG⟩:=bZ.two;clear ba aw bI bZ cv cc
 cases htop:ey s t with
 | none=>
  have b3:=ae (qK (u:=u) htop);have R:=ae htop;clear htop;go_wp2_with(fail);refine(uk u s t W ⟨GA,gn,gc,MA,mn,mc,PA,pn,pc⟩ ⟨bV,bW,bD,TA,tn,tc,a4,hn,hc⟩ ah.2.2.2.2.2 R.o).mono ?_;rintro e aS ⟨rfl,aO⟩;have bB:=ae aO;clear a0 ai af bq am aG;go_upto_region 2 with(fail);generalize hV:World.alloc _ _=V;have bo:Ext W V:=hV▸aO.alloc _;have ds:=bo.size;obtain⟨bq,am,aG⟩:=(ah.2.2.1.aj bo).two;have bS:=ae bo;clear hV bo aO;go_wp2_with(fail);refine(s7 s ⟨bV,bW,bD,TA,tn,tc,a4,hn,hc⟩ V (ah.2.2.2.2.2.on bS.o) HA.2.2).mono ?_;rintro e b7 ⟨⟨bh,bJ,aY,ab,m,L,b9,cu,S⟩,rfl,I,a7⟩;have ca:=I.mono (de:=λk=>mP k\/(V.heap.size<=k/\k<b7.heap.size)) λb O=>.inr O;clear I bq am aG;have a3:=ag ((ah.2.2.2.1.aj bS.o).aj a7) ((ah.1.trans bS.o).trans a7);have da:=ae ca;clear ca a7;obtain⟨bl,aD,aP⟩:=a3.1.two;go_wp2_with(fail);generalize hX:World.setCell _ _ _=Z;obtain⟨bs,a9,bf⟩:=bA (w:=w) [.slice bh bJ aY,.slice ab m L,.slice b9 cu S,.int .i64 s.fault] (by rfl) a3.1 a3.2 ad hX;have bk:=ag a9 bf;clear hX a9 bf bl aD aP;obtain⟨bl,aD,aP⟩:=bs.two;refine Mn (v:=.tuple #[.agg #[.slice bh bJ aY,.slice ab m L,.slice b9 cu S,.int .i64 s.fault],false]) (by simp[results,Tryz.results26,go_sem,bl]) rfl ?_;rw[b3.o];show cX mP w s false _ _
  exact eH (Q:=s) (q:=⟨bh,bJ,aY,ab,m,L,b9,cu,S⟩) da.o bk.2 (λb O=>ad) ad bk.1
 | some f=>
  obtain⟨cn,x,i,H⟩:=jX.of HA.1 HA.2.1 hN htop;have aL:=ae (qL htop H);have l:=ae i;have r:x.op=1\/x.op=2\/x.op=3\/x.op=4\/x.op=5\/x.op=6\/x.op=7\/x.op=8:=by
   exact zO
  have al:=ae r;clear htop H i r;go_wp2_with(fail);refine(um u s t f cn x W ⟨GA,gn,gc,MA,mn,mc,PA,pn,pc⟩ ⟨bV,bW,bD,TA,tn,tc,a4,hn,hc⟩ ⟨l.sm,l.ht,l.hp,l.hx,l.hF.proc,l.pc.1,l.il,l.kl,ah.2.2.2.2.1,ah.2.2.2.2.2⟩).mono ?_;rintro e aS ⟨⟨eo,en,es,EA,em,ec,QA,qm,qc,dn,j,dj,KA,cO,kc⟩,rfl,bE,aO⟩;have ck:=ag bE aO;clear a0 ai af bq am aG bE aO;dsimp only[IV.val];go_upto_region 2 with(fail);generalize hV:World.alloc _ _=V;have bR:=aU hV;have cZ:=aI hV;have bo:Ext W V:=ck.2.trans bR;have ds:=bo.size;have ci:=cZ.lt;have bS:=ae bo;have dy:=ae (ck.1.on bR);obtain⟨a0,ai,af⟩:=(ah.2.1.aj bo).two;obtain⟨bq,am,aG⟩:=(ah.2.2.1.aj bo).two;obtain⟨d0,aK,aM⟩:=cZ.two;have bF:=ae cZ;clear hV bo bR cZ ck;have dG:w+2<V.heap.size:=ad;rcases al.o with h|h|h|h|h|h|h|h
  all_goals
   first
    | have q1:(x.op == 1)=true:=by simpa using h
    | have q1:(x.op == 1)=false:=by simp;omega
   first
    | have cJ:(x.op == 2)=true:=by simpa using h
    | have cJ:(x.op == 2)=false:=by simp;omega
   first
    | have c9:(x.op == 3)=true:=by simpa using h
    | have c9:(x.op == 3)=false:=by simp;omega
   first
    | have dk:(x.op == 4)=true:=by simpa using h
    | have dk:(x.op == 4)=false:=by simp;omega
   first
    | have q5:(x.op == 5)=true:=by simpa using h
    | have q5:(x.op == 5)=false:=by simp;omega
   first
    | have dr:(x.op == 6)=true:=by simpa using h
    | have dr:(x.op == 6)=false:=by simp;omega
   first
    | have q7:(x.op == 7)=true:=by simpa using h
    | have q7:(x.op == 7)=false:=by simp;omega
   first
    | have dJ:(x.op == 8)=true:=by simpa using h
    | have dJ:(x.op == 8)=false:=by simp;omega
  iterate 6
   ·
    have aj:=ae h;clear h;go_wp2_with(fail)
    first
     | refine(wH u s t f cn x N V ⟨bV,bW,bD,TA,tn,tc,a4,hn,hc⟩ ⟨eo,en,es,EA,em,ec,QA,qm,qc,dn,j,dj,KA,cO,kc⟩ l.o (ay aj.o) (ah.2.2.2.2.2.on bS.o) dy.o).mono ?_
     | refine(JC u s t f cn x N V ⟨GA,gn,gc,MA,mn,mc,PA,pn,pc⟩ ⟨bV,bW,bD,TA,tn,tc,a4,hn,hc⟩ ⟨eo,en,es,EA,em,ec,QA,qm,qc,dn,j,dj,KA,cO,kc⟩ l.o (ay aj.o) (ah.2.2.2.2.1.on bS.o) (ah.2.2.2.2.2.on bS.o) dy.o).mono ?_
     | refine(JE u s t f cn x N V ⟨GA,gn,gc,MA,mn,mc,PA,pn,pc⟩ ⟨bV,bW,bD,TA,tn,tc,a4,hn,hc⟩ ⟨eo,en,es,EA,em,ec,QA,qm,qc,dn,j,dj,KA,cO,kc⟩ l.o hN (ay aj.o) (ah.2.2.2.2.1.on bS.o) (ah.2.2.2.2.2.on bS.o) dy.o).mono ?_
    have z:=ae aL.o;generalize b5 u s t f x=aq at *;obtain⟨Q,b⟩:=aq;rintro e b7 ⟨⟨bh,bJ,aY,ab,m,L,b9,cu,S⟩,rfl,ca,a7⟩;clear a0 ai af bq am aG d0 aK aM;have a3:=ag ((ah.2.2.2.1.aj bS.o).aj a7) ((ah.1.trans bS.o).trans a7);have da:=ae ca;clear ca a7;obtain⟨bl,aD,aP⟩:=a3.1.two;go_wp2_with(fail);generalize hX:World.setCell _ _ _=Z;obtain⟨bs,a9,bf⟩:=bA (w:=w) [.slice bh bJ aY,.slice ab m L,.slice b9 cu S,.int .i64 Q.fault] (by rfl) a3.1 a3.2 ad hX;have bk:=ag a9 bf;clear hX a9 bf bl aD aP;obtain⟨bl,aD,aP⟩:=bs.two;refine Mn (v:=.tuple #[.agg #[.slice bh bJ aY,.slice ab m L,.slice b9 cu S,.int .i64 Q.fault],b]) (by simp[results,Tryz.results26,go_sem,bl]) rfl ?_;rw[z.o];show cX mP w Q b _ _
    exact eH (Q:=Q) (q:=⟨bh,bJ,aY,ab,m,L,b9,cu,S⟩) da.o bk.2 (λb O=>ad) ad bk.1
  ·
   have b3:=ae (aL.trans (yk h));clear h;go_wp2_with(fail);refine(fV s bV TA a4 bW bD tn tc hn hc V (ah.2.2.2.2.2.on bS.o).at_ HA.2.2).mono ?_;rintro e b7 ⟨bh,aY,ab,L,b9,S,xs,F1,F2,bL,cd,rfl,cz,bv,a7⟩;have bQ:=az cz bv a7;have cQ:=a7.size;clear cz bv a7 bq am aG a0 ai af d0 aK aM;go_upto_region 15 with(fail);generalize hU:World.alloc _ _=U;have cr:=aU hU;have c8:=aI hU;have hOut:dI V U s b7 ⟨bh,bW,aY,ab,tn,L,b9,hn,S⟩ xs F1 F2 bL cd:=
    ⟨bQ.1.ai λb O=>cr.block b (bQ.2.1 b O).2 λh=>h,c8,λO=>by have:=(bQ.2.1 _ O).2;omega,λb O=>⟨(bQ.2.1 b O).1,by have:=(bQ.2.1 b O).2;have:=cr.size;omega⟩,cQ⟩
   have aT:Ext V U:=bQ.2.2.trans cr;have bg:=bS.trans aT;obtain⟨av,dl,cA,fs,bK,ce⟩:=l.th;have nv:hn=s.threads.length:=by have:=ah.2.2.2.2.2.at_.h.1;simpa using this.symm
   have dD:t<(hn:Int):=ad;have bN:=az av bK ce;have cB:=az hOut bg aT;obtain⟨e0,be,a6⟩:=hOut.o.two;clear hU cr c8 hOut aT bg av cA bK ce nv;obtain⟨bU,c1,i2,cT,df,c7,dg,c0,bc,aH,J⟩:=cB.1.top bN.2.1 dl bN.1 bN.2.2;have aa:=ag aH J;obtain⟨d0,aK,aM⟩:=(show au U aS.heap.size 122 _ from bF.aj cB.2.2).two;clear aH J c0 bc;go_upto_region 16 with(fail);refine eJ (λ_=>False) [(0,0),(1,3),(3,3),(4,0),(2,1),(5,3),(6,3),(7,2)] ?_;refine ph ?_
   iterate 2 refine pf ?_
   refine ph ?_;refine aB rfl (λK hK=>?_);go_simp;refine(aa.1 U.drew Mo.drew).mono ?_;rintro e cS ⟨rfl,bd⟩;have P:=ae (aa.2 cS (Fr.aG bd));have cj:=ae (cB.2.1.trans (Fr.aG bd));refine dq hK (bd) ?_;clear hK K;clear bd e0 be a6 d0 aK aM
   iterate 2 refine pf ?_
   have bT:=P.c1;have g2:=P.fz;have cP:=P.lt;exact eS
  ·
   have b3:=ae (aL.trans (yl h));clear h;go_wp2_with(fail);refine(fV s bV TA a4 bW bD tn tc hn hc V (ah.2.2.2.2.2.on bS.o).at_ HA.2.2).mono ?_;rintro e b7 ⟨bh,aY,ab,L,b9,S,xs,F1,F2,bL,cd,rfl,cz,bv,a7⟩;have bQ:=az cz bv a7;have cQ:=a7.size;clear cz bv a7 bq am aG a0 ai af d0 aK aM;go_upto_region 15 with(fail);generalize hU:World.alloc _ _=U;have cr:=aU hU;have c8:=aI hU;have hOut:dI V U s b7 ⟨bh,bW,aY,ab,tn,L,b9,hn,S⟩ xs F1 F2 bL cd:=
    ⟨bQ.1.ai λb O=>cr.block b (bQ.2.1 b O).2 λh=>h,c8,λO=>by have:=(bQ.2.1 _ O).2;omega,λb O=>⟨(bQ.2.1 b O).1,by have:=(bQ.2.1 b O).2;have:=cr.size;omega⟩,cQ⟩
   have aT:Ext V U:=bQ.2.2.trans cr;have bg:=bS.trans aT;obtain⟨av,dl,cA,fs,bK,ce⟩:=l.th;have nv:hn=s.threads.length:=by have:=ah.2.2.2.2.2.at_.h.1;simpa using this.symm
   have dD:t<(hn:Int):=ad;have bN:=az av bK ce;have cB:=az hOut bg aT;obtain⟨e0,be,a6⟩:=hOut.o.two;clear hU cr c8 hOut aT bg av cA bK ce nv;obtain⟨O,cm,fc,lH,a8,T,bm,aC,du,aZ,aJ,y⟩:=cB.1.pop bN.2.1;simp only at lH;subst lH;have an:=ae y;have dt:=bN.2.2;obtain⟨d0,aK,aM⟩:=(show au U aS.heap.size 122 _ from bF.aj cB.2.2).two;clear y;go_upto_region 18 with(fail);exact BF
def G4(P:Nat->Prop)(w:World)(s:ak)(e:Ending)(ab:World):Prop:=∃q:SV,e=.returned (.agg (q.val s))/\q.Is ab (λk=>P k\/(w.heap.size<=k/\k<ab.heap.size)) s/\Ext w ab
theorem yc(u:aA):dT u=⟨u.globals,List.replicate (own u.af).length ⟨0,0⟩,[[di u u.main [] []]],0⟩:=rfl
theorem cw.below{α:Type}{f:α->List Value}{sz:Nat}{w:World}{A:Mt}{l:List α}(h:cw (EF f) sz w B A n l)(aj:∀b,b<B->ab.heap[b]?=w.heap[b]?):cw (EF f) sz ab B A n l:=by
 refine⟨h.1,λhn=>?_⟩;obtain⟨b,o,bG,O,hc⟩:=h.2 hn;refine⟨b,o,bG,O,λk x hx=>?_⟩;obtain⟨cs,he,hl,bd⟩:=hc k x hx;exact⟨cs,he,hl,λj v bE=>(World.cell?_of_block (w:=w) (aj b O)).trans (bd j v bE)⟩
theorem Gu(A:Mt)(n c:Nat)(X:List bM)(w:World)(h:cw (EF gu) 3 w w A n X)(hX:mr X) :
  Calls prog 56 #[.slice A n c] w λr ab=>∃I aE,r=.returned (.slice I (own X).length aE)/\ab.ownsRow w 79 2 (.slice I (own X).length aE) (own X).length ((List.replicate (own X).length ⟨0,0⟩).flatMap bO)/\Below w w ab:=by
 go_enter func56,ntmps56;go_wp2_with(fail);refine(ib A n c X w h hX).mono ?_;rintro e aS ⟨rfl,O⟩;have Q:=dU X;have a:=cm hX;generalize hN:(own X).length=N at *;rw[<-Q];clear Q;have dE:=λW=>run_mk k1 .i64 .i64 N ad ad W;go_wp2;go_ret;have cv:=O.size;have ao:=wU (e:=79) (f:=bO) (x:=⟨0,0⟩) (zc:=#[.int .i64 0,.int .i64 0]) (sz:=2) rfl rfl ad N ad (w:=aS) (base:=w.heap.size) cv;rw[hN];exact⟨_,_,rfl,ao,O.alloc cv _⟩
namespace CI
theorem dC{p:Prop}(h:p:=by
 generalize hX:World.setCell _ _ _=Z;have G:Ext w V:=((ah.1.trans a8.o).trans bQ.2.1).trans m.1;obtain⟨bs,a9,bf⟩:=bA (w:=w) [.slice bg gn aY,.slice a1 (own u.af).length L,.slice (some ⟨b7.heap.size+1,0,none⟩) 1 1,(0:Int)] (by rfl) av.o G ad hX;have bk:=ag a9 bf;clear hX a9 bf bl aD aP G;obtain⟨bl,aD,aP⟩:=bs.two;clear bs;go_wp2_with(fail);refine Mn (v:=.agg #[.slice bg gn aY,.slice a1 (own u.af).length L,.slice (some ⟨b7.heap.size+1,0,none⟩) 1 1,(0:Int)]) (by simp[results,Tryz.results27,go_sem,bl]) rfl ?_;have cU:=bk.2.size;have al:∀b,b<V.heap.size->b≠w.heap.size+1->Z.heap[b]?=V.heap[b]?:=λb ac ap=>bk.2.block b ac ap;have an:w+1<W.heap.size:=dx;have cx:∀b,aS.heap.size<=b->b<V.heap.size->Z.heap[b]?=V.heap[b]?:=λb ac ap=>al b ap ad;have aL:Own Z 3 1 bg gn aY (u.globals.map cW) (br bg gn aY):=H1.1.ai λb O=>by
  have:=H1.2.1 b O;have cy:W.drew.heap.size=W:=rfl;exact(al b ad ad).trans ((m.1.block b ad λh=>h).trans ((bQ.2.1.block b ad λh=>h).trans (bc.2.2.block b ad λh=>h)))
 have cl:gn=u.globals.length:=by have:=(ah.2.2).at_.g.1;rw[LO] at this;exact this.symm
 have cy:W.drew.heap.size=W:=rfl;have hG:Sl Z (λk=>False\/(w.heap.size<=k/\k<Z.heap.size)) bg gn (u.globals.map D.i):=aL.sl (bX _) (by simp[cl]) λb O=>by
  have:=H1.2.1 b O;exact .inr ⟨ad,ad⟩
 have g:Own Z 79 2 a1 (own u.af).length L ((List.replicate (own u.af).length ⟨0,0⟩).flatMap bO) (br a1 (own u.af).length L):=bc.1.ai λb O=>by
  have:=bc.2.1 b O;exact(al b ad ad).trans ((m.1.block b ad λh=>h).trans (bQ.2.1.block b ad λh=>h))
 have hT:Sl Z (λk=>False\/(w.heap.size<=k/\k<Z.heap.size)) a1 (own u.af).length ((List.replicate (own u.af).length ⟨0,0⟩).map ky):=g.sl (dH _) (by simp) λb O=>by
  have:=bc.2.1 b O;exact .inr ⟨ad,ad⟩
 have o:=m.2.1.on bk.2 ad;have s:=m.2.2.on bk.2 ad;have F:=m.2.1.lt;have l:(dh R).rep Z (λk=>False\/(w.heap.size<=k/\k<Z.heap.size)) [.int .i64 R.proc,.int .i64 R.pc,.slice FA c4 bx,.slice dE fl b2]:=D.aK (λb O=>.inr ⟨by have:=O.1;omega,by have:=O.2;omega⟩) _ _ (D.aS (λb O=>(al b (ay O.2) (ay O.1)).trans (m.1.block b O.2 λh=>h)) _ _ bQ.1);have hF:Sl Z (λk=>False\/(w.heap.size<=k/\k<Z.heap.size)) (some ⟨b7,0,none⟩) 1 ([R].map dh):=⟨rfl,λ_=>⟨b7,0,_,rfl,.inr ⟨ad,ad⟩,D.bg.2 l,λj v bd=>by
  rw[L8,o.cell];simpa using bd⟩⟩
 have hH:Sl Z (λk=>False\/(w.heap.size<=k/\k<Z.heap.size)) (some ⟨b7.heap.size+1,0,none⟩) 1 ([[R]].map fI):=⟨rfl,λ_=>⟨b7.heap.size+1,0,[.slice (some ⟨b7,0,none⟩) 1 1],rfl,.inr ⟨ad,ad⟩,D.bg.2 (dn.2 ⟨_,1,1,rfl,LK _,hF⟩),λj v bd=>by
  rw[L8,s.cell];simpa using bd⟩⟩
 have y:dT u=⟨u.globals,List.replicate (own u.af).length ⟨0,0⟩,[[R]],0⟩:=by rw[yc,bQ.2.2]
 rw[y];have aq:(⟨bg,gn,aY,a1,(own u.af).length,L,some ⟨b7.heap.size+1,0,none⟩,1,1⟩:SV).Is Z (λk=>False\/(w.heap.size<=k/\k<Z.heap.size)) ⟨u.globals,List.replicate (own u.af).length ⟨0,0⟩,[[R]],0⟩:=⟨⟨hG,hT,hH⟩,aL.cap,g.cap,LK _⟩
 exact⟨⟨bg,gn,aY,a1,(own u.af).length,L,some ⟨b7.heap.size+1,0,none⟩,1,1⟩,rfl,aq,bk.1⟩
 ):p:=h
theorem sF{p:Prop}(h:p:=by
 refine pf ?_;refine mf (λV=>Ext b7 V/\au V b7 50 #[.int .i64 R.proc,.int .i64 R.pc,.slice FA c4 bx,.slice dE fl b2]/\au V (b7.heap.size+1) 46 #[.slice (some ⟨b7,0,none⟩) 1 1]) ⟨(Mo.alloc _).alloc _,(Mp).alloc _,au.gX _ _ _ (by simp)⟩ (λV hV=>?_);have m:=ae hV;have bL:=a3.aj hV.1;have ds:=hV.1.size;have z:=hV.2.2.lt;clear hV;obtain⟨bl,aD,aP⟩:=bL.two;have av:=ae bL;clear bL;exact eS
 ):p:=h
theorem lU{p:Prop}(h:p:=by
 have ah:=az aw cv (cc.on aw);have cN:=aw.size;have dx:=cv.lt;obtain⟨a0,ai,af⟩:=aQ.two;clear ba aw aQ cv cc;refine eJ (λ_=>False) [(0,3),(1,0),(3,3),(4,0),(6,0),(7,3),(8,0),(2,1),(5,1),(9,2),(10,2),(11,3),(12,2),(13,3),(14,2)] ?_;refine pf ?_;refine ph ?_;refine pf ?_
 iterate 2 refine ph ?_
 refine pf ?_;refine ph ?_;refine aB rfl (λK hK=>?_);go_simp;refine(Sl.l1 (ah.2.2.on (Fr.refl _ W).drew).at_.g sZ).mono ?_;rintro r aS ⟨bg,aY,rfl,E,bB,ar⟩;have H1:=az E bB (Fr.aG ar);refine dq hK (ar) ?_;clear hK K;clear E bB ar;refine aB rfl (λK hK=>?_);go_simp;refine(Gu MA mn mc u.af aS (ah.2.2.on H1.2.2).at_.m.mM cB.1.ok.wK).mono ?_;rintro r aT ⟨a1,L,rfl,n,bj⟩;have f:Own aT 79 2 a1 (own u.af).length L ((List.replicate (own u.af).length ⟨0,0⟩).flatMap bO) (br a1 (own u.af).length L):=⟨hr n (Md _),rfl⟩
 have i:∀b∈br a1 (own u.af).length L,aS.heap.size<=b/\b<aT.heap.size:=λb O=>n.lt b (by simpa using O);have bc:=az f i (Fr.of (M:=λ_=>False) bj);have b6:=bj.size;refine dq hK (Fr.of bj) ?_;clear hK K;clear n f i bj;have aW:Ext W aT:=H1.2.2.trans bc.2.2;have bS:=aW.size;have cq:=H1.2.2.size;have a8:=ae aW;refine ax rfl (λK hK=>?_);go_simp;refine(mframe u u.main dP [] [] none none 0 0 0 0 aT ⟨GA,gn,gc,MA,mn,mc,PA,pn,pc⟩ (ah.2.2.on aW) cB.2.1 cB.2.2.1 (by have:=cB.2.2.2.ints;simp;omega) cB.2.2.2.ints.2.2 (by simp) (Sl.bS _) (Sl.bS _)).mono ?_;rintro e b7 ⟨FA,c4,bx,dE,fl,b2,rfl,aX,a7⟩;generalize cY:di u u.main [] []=R at *;have bQ:=az aX a7 cY;have cQ:=a7.size;have cE:=(ah.2.1.aj aW).aj a7;clear aX a7 cY aW a0 ai af;have a3:=ae cE;clear cE;refine dX hK ?_;clear hK K;exact sE
 ):p:=h
end CI
open CI in
theorem JF(u:aA)(w:World)(p:UV)(hU:tD u)(hu:p.Ok w u) :
  Calls prog 27 #[.agg (p.val u)] w (G4 (λ_=>False) w (dT u)):=by
 obtain⟨GA,gn,gc,MA,mn,mc,PA,pn,pc⟩:=p;obtain⟨dP,bC,ak,bm,cj⟩:=hU.ok.main;have c3:=hU.ok.procs dP (LN ak);have sZ:gn<=100000:=by have ac:=hu.at_.g.1;have ap:=hU.ok.oj;rw[LO] at ac;have aV:u.globals.length=gn:=ac;omega
 have cB:=bF hU bC ak c3;have cc:=ae hu;clear hU bC ak bm cj c3 hu;dsimp only[UV.val];go_enter func27,ntmps27;exact lT
def h4(w:World)(p:Prop)(e:Ending)(ab:World):Prop:=∃b:Bool,e=.returned (.bool b)/\(b=true↔p)/\Ext w ab
theorem Ex{g:al}:f=g↔f.proc=g.proc/\f.pc=g.pc/\f.ints=g.ints/\f.an=g.an:=by
 cases f;cases g;simp
def iA(e:TypeId)(z n:Nat)(xs:List Value)(w:World)(st:Nat)(v1 v2:Value)(F:List Nat):Prop:=
 (st=0/\v1=undef/\v2=undef/\F=[])\/(st=1/\v2=undef/\∃A,v1=.slice A 0 0/\Own w e z A 0 0 [] F)\/(st=2/\∃A c,v2=.slice A n c/\Own w e z A n c xs F)
theorem iA.ai{e:TypeId}{z n:Nat}{xs:List Value}{w ab:World}{st:Nat}{v1 v2:Value}{F:List Nat}(h:iA e z n xs w st v1 v2 F)(aj:∀b∈F,ab.heap[b]?=w.heap[b]?):iA e z n xs ab st v1 v2 F:=by
 rcases h with h|⟨ac,ap,A,aV,bz⟩|⟨ac,A,c,ap,aV⟩
 .exact .inl h
 .exact .inr (.inl ⟨ac,ap,A,aV,bz.ai aj⟩)
 .exact .inr (.inr ⟨ac,A,c,ap,aV.ai aj⟩)
def xY(g t h:Nat)(b:Bool):List Nat:=
 (bif g == 0 then [0] else [])++((bif g == 1 then [3] else [])++((bif t == 0 then [4] else [])++((bif t == 1 && g == 2 then [7] else [])++((bif h == 0 then [8] else [])++((bif h == 1 && t == 2 then [11] else [])++(bif b then [] else [15]))))))
def HJ(b:Bool):PT:=bif b then .pick [16] (λ_=>.stop) else .pick [15] (λ_=>.pick [16] (λ_=>.stop))
def jn:Nat->Nat->Nat->Nat->Bool->PT
 | 0,_,_,_,_=>.stop
 | f+1,g,t,h,b=>bif h == 2 then .free 14 (HJ b) else .pick (xY g t h b) λi=>
   bif i == 0 then jn f 1 t h b else bif i == 3 then jn f 2 t h b else bif i == 4 then jn f g 1 h b else bif i == 7 then jn f g 2 h b else bif i == 8 then jn f g t 1 b else bif i == 11 then jn f g t 2 b else jn f g t h true
structure hj(W:World)(s:ak)(gn tn hn:Nat)(hx:List Value)(w:World)(g t h:Nat)(b:Bool)(a1 dc v10 v11 ax aF aB:Value)(F1 F2 bL cd:List Nat):Prop where
 ext:Ext W w
 g:iA 3 1 gn (s.globals.map cW) w g dc v10 F1
 t:iA 79 2 tn (s.table.flatMap bO) w t v11 ax F2
 h:iA 46 1 hn hx w h aF aB bL
 o:(b=false/\a1=undef/\cd=[])\/(b=true/\∃N,a1=.pointer (some ⟨N,0,none⟩)/\cd=[N]/\au w N 26 #[.slice none 0 0,.slice none 0 0,.slice none 0 0,.int .i64 0])
 nd:(F1++(F2++(bL++cd))).Nodup
 lo:∀k∈F1++(F2++(bL++cd)),W.heap.size<=k/\k<w.heap.size
theorem qj(h:(F1++F2).Nodup)(hl:∀k∈F1++F2,k<m):(F1++(m::F2)).Nodup:=
 (List.perm_middle (a:=m) (l₁:=F1) (l₂:=F2)).nodup_iff.2 (List.nodup_cons.2 ⟨λh=>by have:=hl m h;omega,h⟩)
theorem s9{A B q C:List Nat}(h:(A++(B++C)).Nodup)(hl:∀k∈A++(B++C),k<m)(aQ:q.Nodup)(hn:∀k∈q,k∈B\/m<=k):(A++(q++C)).Nodup:=by
 have ac:=List.nodup_append.1 h;have ap:=List.nodup_append.1 ac.2.1;refine List.nodup_append.2 ⟨ac.1,List.nodup_append.2 ⟨aQ,ap.2.1,λx hx y bb c=>?_⟩,λx hx y bb c=>?_⟩
 .subst c;rcases hn x hx with aV|aV
  .exact ap.2.2 x aV x bb rfl
  .have:=hl x (by simp[bb]);omega
 .subst c;rcases LU.1 bb with bb|bb
  .rcases hn x bb with aV|aV
   .exact ac.2.2 x hx x (by simp[aV]) rfl
   .have:=hl x (by simp[hx]);omega
  .exact ac.2.2 x hx x (by simp[bb]) rfl
section
variable {a:Act} {w:World} {K:Act->World->Prop} {Q:Exit->Act->World->Prop} {dst:Option Nat} {ty:TypeId} {p:String} {an:Array Edge}
theorem FJ(h:K (a.put dst (.slice (some ⟨w,0,none⟩) 0 0)) (w.alloc (.cells #[] 3))):Oper.wp prog ⟨dst,.buildSlice 22 0 #[],ty,p,an,none⟩ a w K Q:=by
 go_simp;exact h
theorem I1(h:K (a.put dst (.slice (some ⟨w,0,none⟩) 0 0)) (w.alloc (.cells #[] 79))):Oper.wp prog ⟨dst,.buildSlice 23 0 #[],ty,p,an,none⟩ a w K Q:=by
 go_simp;exact h
theorem I2(h:K (a.put dst (.slice (some ⟨w,0,none⟩) 0 0)) (w.alloc (.cells #[] 46))):Oper.wp prog ⟨dst,.buildSlice 24 0 #[],ty,p,an,none⟩ a w K Q:=by
 go_simp;exact h
theorem I0(h:K (a.put dst (.pointer (some ⟨w,0,none⟩))) (w.alloc (.cells #[(),(),(),(0:Int)] 26))):Oper.wp prog ⟨dst,.alloc 26,ty,p,an,none⟩ a w K Q:=by
 go_simp;exact h
end
theorem iA.begin{z:Nat}{w:World}(h:iA e z n xs w 0 v1 v2 F)(hw:w.alloc (.cells #[] e)=ab):F=[]/\v2=undef/\iA e z n xs ab 1 (.slice (some ⟨w,0,none⟩) 0 0) v2 [w.heap.size]:=by
 rcases h with⟨_,_,ap,aV⟩|⟨h,_⟩|⟨h,_⟩
 .subst hw;exact⟨aV,ap,.inr (.inl ⟨rfl,ap,_,rfl,⟨World.ownsRow_made w #[] 0 (Md _) (Md _) (by simp),rfl⟩⟩)⟩
 .cases h
 .cases h
theorem iA.fill{P:Program}{t:TypeId}{z:Value}{size bytes:Nat}{w:World}(h:iA e size n xs w 1 v1 v2 F){o:Oper}{a:Act}{K:Act->World->Prop}{Q:Exit->Act->World->Prop}(bG:cn P t e z size bytes)(s x:Operand)
  (bn:o.op=.call {callee:=.builtin .append,args:=#[s,x],argTypes:=#[t,t]}) (hs:a.eval s=v1) {A:Mt} {c:Nat} (hx:a.eval x=.slice A n c) (a5:Src w size A n xs) (O:n*bytes<=140737488355328) (y:n<=140737488355328) (aH:A=none->n=0)
  (hK:∀v ab S,iA e size n xs ab 2 v1 v S->Fr (λk=>k∈F) w ab->S.Nodup->(∀k∈S,(k∈F\/w.heap.size<=k)/\k<ab.heap.size)->K (a.put o.dst v) ab):o.wp P a w K Q:=by
 rcases h with⟨h,_⟩|⟨_,_,B,bE,E⟩|⟨h,_⟩
 .cases h
 .rw[bE] at hs;refine km _ bG s x bn 0 _ 0 [] hs E.row A n c xs hx a5 (by rw[L8];exact O) ad (Md _) aH λG ab bY b9 H=>?_;simp only[L8,Mh] at bY;obtain⟨I,aE,rfl,hc,_⟩:=bT bY;refine hK _ ab (br I n aE) (.inr (.inr ⟨rfl,I,aE,rfl,bY,rfl⟩)) (Mo.grown b9 λg aR=>.inl (by rw[E.eq];simp[aR])) (ff _ _ _) λb O=>?_;have a1:(Value.slice I n aE).ownBlock=some b:=by simpa using O
  refine⟨?_,(bY.lt b a1).2⟩;rcases H with H|H
  .rw[H] at a1;exact .inl (by rw[E.eq];simp[a1])
  .rw[H] at a1;injection a1 with a1;right;omega
 .cases h
section
variable {ops:Array Oper} {Q:Exit->Act->World->Prop} {W:World} {s:ak} {gn tn hn gc tc hc:Nat} {GA TA HA:Mt} {hx:List Value} {ws:Nat} {aa:Value->Value->Value->Value->Value->Value->Value->Act}
 {p0 p3 p4 p7 p8 p11 p15:String} {a0 a3 a4 a7 a8 a11 a15:Array Edge} {t15:TypeId}
theorem hj.dw{bL cd:List Nat}:k∈F1++(F2++(bL++cd))↔k∈F1\/k∈F2\/k∈bL\/k∈cd:=by simp only[LU]
theorem World.kV(w:World)(o:Obj):(w.alloc o).heap.size=w.heap.size+1:=by first|(simp;done)|(cases o<;>simp;done)|(unfold World.alloc;simp;done)|rfl
theorem hj.eB{w:World}{M:List Nat}(J:Fr (λk=>k∈M) w ab)(an:∀k∈F,k<w.heap.size)(hd:∀k∈F,k∉M):∀k∈F,ab.heap[k]?=w.heap[k]?:=λk aj=>J.block k (an k aj) (hd k aj)
theorem F6(hG:Sl W (aq W) GA gn (s.globals.map D.i))(hT:Sl W (aq W) TA tn (s.table.map ky))(hH:Src W 1 HA hn hx)(Kg:HA=none->hn=0)(sZ:gn<=100000)(ud:tn<=100000)(nv:hn<=100000)(od:ws<=W.heap.size)
  (o0:ops[0]?=some ⟨some 7,.buildSlice 22 0 #[],22,p0,a0,none⟩)
  (o3:ops[3]?=some ⟨some 10,.call {callee:=.builtin .append,args:=#[.tmp 7,.tmp 9],argTypes:=#[22,22]},22,p3,a3,none⟩)
  (o4:ops[4]?=some ⟨some 11,.buildSlice 23 0 #[],23,p4,a4,none⟩)
  (o7:ops[7]?=some ⟨some 14,.call {callee:=.builtin .append,args:=#[.tmp 11,.tmp 13],argTypes:=#[23,23]},23,p7,a7,none⟩)
  (o8:ops[8]?=some ⟨some 15,.buildSlice 24 0 #[],24,p8,a8,none⟩)
  (Kj:ops[11]?=some ⟨some 18,.call {callee:=.builtin .append,args:=#[.tmp 15,.tmp 17],argTypes:=#[24,24]},24,p11,a11,none⟩)
  (Kk:ops[15]?=some ⟨some 5,.alloc 26,t15,p15,a15,none⟩)
  (q5:∀a b c d e f g x,(aa a b c d e f g).put (some 5) x=aa x b c d e f g) (q7:∀a b c d e f g x,(aa a b c d e f g).put (some 7) x=aa a x c d e f g) (FM:∀a b c d e f g x,(aa a b c d e f g).put (some 10) x=aa a b x d e f g)
  (JO:∀a b c d e f g x,(aa a b c d e f g).put (some 11) x=aa a b c x e f g) (Ku:∀a b c d e f g x,(aa a b c d e f g).put (some 14) x=aa a b c d x f g) (Kv:∀a b c d e f g x,(aa a b c d e f g).put (some 15) x=aa a b c d e x g) (Kw:∀a b c d e f g x,(aa a b c d e f g).put (some 18) x=aa a b c d e f x)
  (e7:∀a b c d e f g,(aa a b c d e f g).eval (.tmp 7)=b) (e9:∀a b c d e f g,(aa a b c d e f g).eval (.tmp 9)=.slice GA gn gc) (J8:∀a b c d e f g,(aa a b c d e f g).eval (.tmp 11)=d) (J9:∀a b c d e f g,(aa a b c d e f g).eval (.tmp 13)=.slice TA tn tc)
  (Ka:∀a b c d e f g,(aa a b c d e f g).eval (.tmp 15)=f) (Kb:∀a b c d e f g,(aa a b c d e f g).eval (.tmp 17)=.slice HA hn hc)
  (kz:∀b a1 dc v10 v11 ax aF aB F1 F2 bL cd w,hj W s gn tn hn hx w 2 2 2 b a1 dc v10 v11 ax aF aB F1 F2 bL cd->cS prog ops Q (Fr (λk=>¬k<ws)) [16] (.free 14 (HJ b)) (aa a1 dc v10 v11 ax aF aB) w) :
  ∀(n g t h:Nat) (b:Bool),g<=2->t<=2->h<=2->(t=2->g=2)->(h=2->t=2)->7<n+g+t+h+b.toNat->∀a1 dc v10 v11 ax aF aB F1 F2 bL cd w,hj W s gn tn hn hx w g t h b a1 dc v10 v11 ax aF aB F1 F2 bL cd->
   cS prog ops Q (Fr (λk=>¬k<ws)) [16] (jn n g t h b) (aa a1 dc v10 v11 ax aF aB) w:=by
 intro n
 induction n with
 | zero=>intro g t h b aR ht ah _ _ hn;cases b<;>simp at hn<;>omega
 | succ n Z=>
  intro g t h b aR ht ah cH z J a1 dc v10 v11 ax aF aB F1 F2 bL cd w hS;unfold jn;by_cases ap:h=2
  .have co:=z ap;have al:=cH co;subst ap co al;exact kz _ _ _ _ _ _ _ _ _ _ _ _ _ hS
  have bj:(h == 2)=false:=by simpa using ap
  rw[bj];have bv:=hS.lo;have R:=hS.ext.size;have an:∀k∈F1++(F2++(bL++cd)),k<w.heap.size:=λk aj=>(bv k aj).2;have G:∀o:Obj,Fr (λk=>¬k<ws) w (w.alloc o):=λo=>Mo.alloc o;have m:∀(o:Obj) (k:Nat),k<w.heap.size->(w.alloc o).heap[k]?=w.heap[k]?:=λo k aj=>Below.heap_alloc w o k aj;have U:∀o:Obj,(w.alloc o).heap.size=w.heap.size+1:=λo=>World.kV w o;intro i aX;simp only[xY,LU] at aX;rcases aX with aX|aX|aX|aX|aX|aX|aX
  ·
   cases L:(g == 0) with
   | false=>rw[L] at aX;exact absurd aX (by simp)
   | true=>
   rw[L] at aX;have dd:g=0:=by simpa using L
   have i0:i=0:=by simpa using aX
   subst dd i0;obtain⟨y,_,a5⟩:=hS.g.begin rfl;subst y;refine⟨_,o0,λK hK=>?_⟩;rw[if_pos (by rfl)];refine FJ (hK _ _ (λ_=>G _) ?_);rw[q7];refine Z 1 t h b ad ht ah ad z ad _ _ _ _ _ _ _ [w.heap.size] F2 bL cd _ ⟨hS.ext.alloc _,a5,hS.t.ai λk aj=>m _ k (an k (hj.dw.2 (by simp[aj]))),hS.h.ai λk aj=>m _ k (an k (hj.dw.2 (by simp[aj]))),?_,?_,?_⟩
   .rcases hS.o with ac|⟨ac,N,aV,bz,cI⟩
    .exact .inl ac
    .exact .inr ⟨ac,N,aV,bz,cI.alloc _⟩
   .exact qj (F1:=[]) hS.nd an
   .intro k aj;rw[U];simp only[LU,L5,List.not_mem_nil,or_false] at aj;rcases aj with aj|aj
    .omega
    .have:=bv k (by simpa using aj);omega
  ·
   cases L:(g == 1) with
   | false=>rw[L] at aX;exact absurd aX (by simp)
   | true=>
   rw[L] at aX;have bT:g=1:=by simpa using L
   subst bT;have i0:i=3:=by simpa using aX
   subst i0;refine⟨_,o3,λK hK=>?_⟩;rw[if_pos (by rfl)];refine iA.fill hS.g cF (.tmp 7) (.tmp 9) rfl (e7 _ _ _ _ _ _ _) (e9 _ _ _ _ _ _ _) (by have:=Src.jL (hG.on (Fr.ext hS.ext)).ints (gA _) (iO _) ad;rwa [n9] at this) ad ad (λh=>by subst h;exact hG.none_) (λv ab S a5 cg aW r=>?_);have b2:=cg.size;have l:∀k∈F1,W.heap.size<=k:=λk aj=>(bv k (hj.dw.2 (by simp[aj]))).1;have u:Ext W ab:=Fr.low (M:=λk=>k∈F1) (Fr.trans (Fr.mono hS.ext λ_ h=>h.elim) cg) l;refine hK _ _ (λ_=>cg.mono λk aj=>by have:=l k aj;omega) ?_;rw[FM];have j:∀k,k∈F1++(F2++(bL++cd))->k∉F1->ab.heap[k]?=w.heap[k]?:=λk aj hn=>cg.block k (an k aj) hn;have n1:=List.nodup_append.1 hS.nd;have n2:=List.nodup_append.1 n1.2.1;have n3:=List.nodup_append.1 n2.2.1;refine Z 2 t h b ad ht ah ad z ad _ _ _ _ _ _ _ S F2 bL cd _ ⟨u,a5,hS.t.ai (λk aj=>j k (hj.dw.2 (by simp[aj])) (λac=>n1.2.2 k ac k (by simp[aj]) rfl)),hS.h.ai (λk aj=>j k (hj.dw.2 (by simp[aj])) (λac=>n1.2.2 k ac k (by simp[aj]) rfl)),?_,?_,?_⟩
   .rcases hS.o with ac|⟨ac,N,aV,bz,cI⟩
    .exact .inl ac
    .have q:∀k∈cd,k∉F1:=λk aj=>λac=>n1.2.2 k ac k (by simp[aj]) rfl;exact .inr ⟨ac,N,aV,bz,show _=_ from (j N (hj.dw.2 (by simp[bz])) (q N (by simp[bz]))).trans cI⟩
   .exact s9 (A:=[]) hS.nd an aW λk aj=>(r k aj).1
   .intro k aj;rcases hj.dw.1 aj with aj|aj|aj|aj
    .have:=r k aj;have:W<=k:=by rcases this.1 with ac|ac;exact l k ac;omega
     omega
    .have:=bv k (hj.dw.2 (by simp[aj]));omega
    .have:=bv k (hj.dw.2 (by simp[aj]));omega
    .have:=bv k (hj.dw.2 (by simp[aj]));omega
  ·
   cases L:(t == 0) with
   | false=>rw[L] at aX;exact absurd aX (by simp)
   | true=>
   rw[L] at aX;have dd:t=0:=by simpa using L
   have i0:i=4:=by simpa using aX
   subst dd i0;obtain⟨y,_,a5⟩:=hS.t.begin rfl;subst y;refine⟨_,o4,λK hK=>?_⟩;rw[if_pos (by rfl)];refine I1 (hK _ _ (λ_=>G _) ?_);rw[JO];refine Z g 1 h b aR ad ah ad (λh=>ad) ad _ _ _ _ _ _ _ F1 [w.heap.size] bL cd _ ⟨hS.ext.alloc _,hS.g.ai λk aj=>m _ k (an k (hj.dw.2 (by simp[aj]))),a5,hS.h.ai λk aj=>m _ k (an k (hj.dw.2 (by simp[aj]))),?_,?_,?_⟩
   .rcases hS.o with ac|⟨ac,N,aV,bz,cI⟩
    .exact .inl ac
    .exact .inr ⟨ac,N,aV,bz,cI.alloc _⟩
   .exact qj (F1:=F1) hS.nd an
   .intro k aj;rw[U];rcases hj.dw.1 aj with aj|aj|aj|aj
    .have:=bv k (hj.dw.2 (by simp[aj]));omega
    .have:=Mi.1 aj;omega
    .have:=bv k (hj.dw.2 (by simp[aj]));omega
    .have:=bv k (hj.dw.2 (by simp[aj]));omega
  ·
   cases L:(t == 1 && g == 2) with
   | false=>rw[L] at aX;exact absurd aX (by simp)
   | true=>
   rw[L] at aX;simp only[LY,beq_iff_eq] at L;obtain⟨t1,g2⟩:=L;subst t1 g2;have i0:i=7:=by simpa using aX
   subst i0;refine⟨_,o7,λK hK=>?_⟩;rw[if_pos (by rfl)];refine iA.fill hS.t k1 (.tmp 11) (.tmp 13) rfl (J8 _ _ _ _ _ _ _) (J9 _ _ _ _ _ _ _) (Src.jL (hT.on (Fr.ext hS.ext)).holds (eP _) (lu _) ad) ad ad (λh=>by subst h;exact hT.none_) (λv ab S a5 cg aW r=>?_);have b2:=cg.size;have l:∀k∈F2,W.heap.size<=k:=λk aj=>(bv k (hj.dw.2 (by simp[aj]))).1;have u:Ext W ab:=Fr.low (M:=λk=>k∈F2) (Fr.trans (Fr.mono hS.ext λ_ h=>h.elim) cg) l;refine hK _ _ (λ_=>cg.mono λk aj=>by have:=l k aj;omega) ?_;rw[Ku];have j:∀k,k∈F1++(F2++(bL++cd))->k∉F2->ab.heap[k]?=w.heap[k]?:=λk aj hn=>cg.block k (an k aj) hn;have n1:=List.nodup_append.1 hS.nd;have n2:=List.nodup_append.1 n1.2.1;have n3:=List.nodup_append.1 n2.2.1;refine Z 2 2 h b aR ad ah ad ad ad _ _ _ _ _ _ _ F1 S bL cd _ ⟨u,hS.g.ai (λk aj=>j k (hj.dw.2 (by simp[aj])) (λac=>n1.2.2 k aj k (by simp[ac]) rfl)),a5,hS.h.ai (λk aj=>j k (hj.dw.2 (by simp[aj])) (λac=>n2.2.2 k ac k (by simp[aj]) rfl)),?_,?_,?_⟩
   .rcases hS.o with ac|⟨ac,N,aV,bz,cI⟩
    .exact .inl ac
    .have q:∀k∈cd,k∉F2:=λk aj=>λac=>n2.2.2 k ac k (by simp[aj]) rfl;exact .inr ⟨ac,N,aV,bz,show _=_ from (j N (hj.dw.2 (by simp[bz])) (q N (by simp[bz]))).trans cI⟩
   .exact s9 (A:=F1) hS.nd an aW λk aj=>(r k aj).1
   .intro k aj;rcases hj.dw.1 aj with aj|aj|aj|aj
    .have:=bv k (hj.dw.2 (by simp[aj]));omega
    .have:=r k aj;have:W<=k:=by rcases this.1 with ac|ac;exact l k ac;omega
     omega
    .have:=bv k (hj.dw.2 (by simp[aj]));omega
    .have:=bv k (hj.dw.2 (by simp[aj]));omega
  ·
   cases L:(h == 0) with
   | false=>rw[L] at aX;exact absurd aX (by simp)
   | true=>
   rw[L] at aX;have dd:h=0:=by simpa using L
   have i0:i=8:=by simpa using aX
   subst dd i0;obtain⟨y,_,a5⟩:=hS.h.begin rfl;subst y;refine⟨_,o8,λK hK=>?_⟩;rw[if_pos (by rfl)];refine I2 (hK _ _ (λ_=>G _) ?_);rw[Kv];refine Z g t 1 b aR ht ad cH ad ad _ _ _ _ _ _ _ F1 F2 [w.heap.size] cd _ ⟨hS.ext.alloc _,hS.g.ai λk aj=>m _ k (an k (hj.dw.2 (by simp[aj]))),hS.t.ai λk aj=>m _ k (an k (hj.dw.2 (by simp[aj]))),a5,?_,?_,?_⟩
   .rcases hS.o with ac|⟨ac,N,aV,bz,cI⟩
    .exact .inl ac
    .exact .inr ⟨ac,N,aV,bz,cI.alloc _⟩
   .have:=qj (F1:=F1++F2) (F2:=cd) (by simpa using hS.nd) (by simpa using an);simpa using this
   .intro k aj;rw[U];rcases hj.dw.1 aj with aj|aj|aj|aj
    .have:=bv k (hj.dw.2 (by simp[aj]));omega
    .have:=bv k (hj.dw.2 (by simp[aj]));omega
    .have:=Mi.1 aj;omega
    .have:=bv k (hj.dw.2 (by simp[aj]));omega
  ·
   cases L:(h == 1 && t == 2) with
   | false=>rw[L] at aX;exact absurd aX (by simp)
   | true=>
   rw[L] at aX;simp only[LY,beq_iff_eq] at L;obtain⟨ac,t2⟩:=L;have g2:=cH t2;subst ac t2 g2;have i0:i=11:=by simpa using aX
   subst i0;refine⟨_,Kj,λK hK=>?_⟩;rw[if_pos (by rfl)];refine iA.fill hS.h pE (.tmp 15) (.tmp 17) rfl (Ka _ _ _ _ _ _ _) (Kb _ _ _ _ _ _ _) (hH.on (Fr.ext hS.ext)) ad ad Kg (λv ab S a5 cg aW r=>?_);have b2:=cg.size;have l:∀k∈bL,W.heap.size<=k:=λk aj=>(bv k (hj.dw.2 (by simp[aj]))).1;have u:Ext W ab:=Fr.low (M:=λk=>k∈bL) (Fr.trans (Fr.mono hS.ext λ_ h=>h.elim) cg) l;refine hK _ _ (λ_=>cg.mono λk aj=>by have:=l k aj;omega) ?_;rw[Kw];have j:∀k,k∈F1++(F2++(bL++cd))->k∉bL->ab.heap[k]?=w.heap[k]?:=λk aj hn=>cg.block k (an k aj) hn;have n1:=List.nodup_append.1 hS.nd;have n2:=List.nodup_append.1 n1.2.1;have n3:=List.nodup_append.1 n2.2.1;refine Z 2 2 2 b aR ht ad ad ad ad _ _ _ _ _ _ _ F1 F2 S cd _ ⟨u,hS.g.ai (λk aj=>j k (hj.dw.2 (by simp[aj])) (λac=>n1.2.2 k aj k (by simp[ac]) rfl)),hS.t.ai (λk aj=>j k (hj.dw.2 (by simp[aj])) (λac=>n2.2.2 k aj k (by simp[ac]) rfl)),a5,?_,?_,?_⟩
   .rcases hS.o with ac|⟨ac,N,aV,bz,cI⟩
    .exact .inl ac
    .have q:∀k∈cd,k∉bL:=λk aj=>λac=>n3.2.2 k ac k aj rfl;exact .inr ⟨ac,N,aV,bz,show _=_ from (j N (hj.dw.2 (by simp[bz])) (q N (by simp[bz]))).trans cI⟩
   .have:=s9 (A:=F1++F2) (B:=bL) (C:=cd) (by simpa using hS.nd) (by simpa using an) aW (λk aj=>(r k aj).1);simpa using this
   .intro k aj;rcases hj.dw.1 aj with aj|aj|aj|aj
    .have:=bv k (hj.dw.2 (by simp[aj]));omega
    .have:=bv k (hj.dw.2 (by simp[aj]));omega
    .have:=r k aj;have:W<=k:=by rcases this.1 with ac|ac;exact l k ac;omega
     omega
    .have:=bv k (hj.dw.2 (by simp[aj]));omega
  ·
   cases b with
   | true=>simp at aX
   | false=>
   have i0:i=15:=by simpa using aX
   subst i0;refine⟨_,Kk,λK hK=>?_⟩;rw[if_pos (by rfl)];refine I0 (hK _ _ (λ_=>G _) ?_);rw[q5];have bz:cd=[]:=by
    rcases hS.o with⟨_,_,h⟩|⟨h,_⟩
    .exact h
    .cases h
   subst bz;refine Z g t h true aR ht ah cH z (by simp at J ⊢;omega) _ _ _ _ _ _ _ F1 F2 bL [w.heap.size] _ ⟨hS.ext.alloc _,hS.g.ai λk aj=>m _ k (an k (hj.dw.2 (by simp[aj]))),hS.t.ai λk aj=>m _ k (an k (hj.dw.2 (by simp[aj]))),hS.h.ai λk aj=>m _ k (an k (hj.dw.2 (by simp[aj]))),.inr ⟨rfl,_,rfl,rfl,Mp⟩,?_,?_⟩
   .have:=qj (F1:=F1++(F2++bL)) (F2:=[]) (by simpa using hS.nd) (by simpa using an);simpa using this
   .intro k aj;rw[U];rcases hj.dw.1 aj with aj|aj|aj|aj
    .have:=bv k (hj.dw.2 (by simp[aj]));omega
    .have:=bv k (hj.dw.2 (by simp[aj]));omega
    .have:=bv k (hj.dw.2 (by simp[aj]));omega
    .have:=Mi.1 aj;omega
end
end Go.Proofs.YtpkfopfkdgkfkaaGreat

/- Part 24 of the proof. No condition of its own. -/
import Derived.Test.YtnigabjngpnbiaaGreatQ15
import Derived.Test.YtnigabjngpnbiaaGreatQ23
namespace Go.Proofs.YtnigabjngpnbiaaGreat
open Go.RowKit Go.Proofs.Tryz
set_option maxRecDepth 1000000
set_option maxHeartbeats 25600000
set_option linter.unusedVariables false
variable{t:Int}{fs:List ai}{B N:Nat}{p:Prop}{w:World}{s:ah}{f:ai}{x:ax}{u:ay}
theorem aV.tok(h:aV u N s)(bo:N<=100000):D1 u.af s.table:=by
 refine⟨h.table,λx hx=>?_⟩;obtain⟨i,I⟩:=List.getElem?_of_mem hx;have an:=h.holds i x I;have:=an.owner;have:=an.depth;have:=h.xB;omega
theorem df.G6{B:Nat}{w X:World}{s:ah}{N:Nat}{q:SV}{xs:List Value}{F1 F2 bj bI:List Nat}(h:df B w s N q xs F1 F2 bj bI){T:List cp}{S:Kj}{m aX:Nat}(hT:w.ownsRow 0 89 2 (.slice S m aX) m (T.flatMap bA))(hl:m=T.length)
  (hd:∀b∈bd S m aX,b∉F1++(F2++(bj++bI))/\b≠N/\B<=b) (hX:w.setCell ⟨N,1,none⟩ (.slice S m aX)=X):df B X {s with table:=T} N ⟨q.GA,q.gn,q.gc,S,m,aX,q.HA,q.hn,q.hc⟩ xs F1 (bd S m aX) bj bI:=by
 have ac:=h.st.G6 hT hl λb O=>(hd b O).1;have aq:∀b∈bd S m aX,b<w.heap.size:=λb O=>(hT.lt b (by simpa using O)).2;have bK:∀b,b∈F1++(bd S m aX++(bj++bI))->B<=b/\b<w.heap.size/\b≠N:=λb O=>by
  simp only[JR] at O;have an:∀b,b∈F1++(F2++(bj++bI))->B<=b/\b<w.heap.size/\b≠N:=λb O=>⟨(h.lo b O).1,(h.lo b O).2,λhe=>h.ne (he▸O)⟩
  rcases O with O|O|O|O
  .exact an b (by simp[O])
  .exact⟨(hd b O).2.2,aq b O,(hd b O).2.1⟩
  .exact an b (by simp[O])
  .exact an b (by simp[O])
 subst hX;refine⟨ac.al λb O=>aJ (bK b O).2.2,?_,λaS=>(bK N aS).2.2 rfl,λb O=>⟨(bK b O).1,by simpa[World.setCell] using (bK b O).2.1⟩,h.go⟩;exact h.o.bH 1 _
structure I2(u:ay)(s:ah)(t:Int)(f:ai)(x:ax)(r:Int×Int):Prop where
 bad:r.2≠0->bU u s t f x=({s with fault:=r.2},true)
 lf:r.2=0->x.op=4->free u.af s.table r.1 t=true->bU u s t f x=({bg s t (next f) with table:=eV u.af s.table r.1 t},true)
 ln:r.2=0->x.op=4->free u.af s.table r.1 t=false->bU u s t f x=(s,false)
 uf:r.2=0->x.op=5->heldBy u.af s.table r.1 t=true->bU u s t f x=({bg s t (next f) with table:=cJ u.af s.table r.1 t},true)
 un:r.2=0->x.op=5->heldBy u.af s.table r.1 t=false->bU u s t f x=({s with fault:=3},true)
theorem IP(cf:x.op=4\/x.op=5):I2 u s t f x (bu u s f x.place):=by
 have h0:bU u s t f x=(if (bu u s f x.place).2≠0 then ({s with fault:=(bu u s f x.place).2},true)
  else if x.op=4 then (if free u.af s.table (bu u s f x.place).1 t then ({bg s t (next f) with table:=eV u.af s.table (bu u s f x.place).1 t},true) else (s,false))
  else (if heldBy u.af s.table (bu u s f x.place).1 t then ({bg s t (next f) with table:=cJ u.af s.table (bu u s f x.place).1 t},true) else ({s with fault:=3},true))):=by
  unfold bU;rw[if_neg ad,if_neg ad,if_pos cf]
 generalize bu u s f x.place=r at *;refine⟨λh=>?_,λh ac ap=>?_,λh ac ap=>?_,λh ac ap=>?_,λh ac ap=>?_⟩
 .rw[h0,if_pos h]
 .rw[h0,if_neg ad,if_pos ac,if_pos ap]
 .rw[h0,if_neg ad,if_pos ac,if_neg (by simp[ap])]
 .rw[h0,if_neg ad,if_neg ad,if_pos ap]
 .rw[h0,if_neg ad,if_neg ad,if_neg (by simp[ap])]
namespace BL
theorem yU(h:p:=by
 obtain⟨bq,a5,a4⟩:=bk (w:=w) [.slice aN aU a3,.slice S m aX,.slice bG cd aO,.int .i64 z] (by rfl) a2.1 a2.2 ad hX;have i:=ak a5 a4;clear hX a5 a4 bh an aM;obtain⟨bh,an,aM⟩:=bq.two;refine Ke (v:=.tuple #[.agg #[.slice aN aU a3,.slice S m aX,.slice bG cd aO,.int .i64 z],.bool true]) (by simp[results,Tryz.results25,go_sem,bh]) rfl ?_;rw[b6.o];show cH lO w {s with fault:=z} true _ _
 exact dS (aB:={s with fault:=z}) (q:=⟨aN,aU,a3,S,m,aX,bG,cd,aO⟩) cT.o i.2 (λb O=>ad) ad i.1
 ):p:=h
theorem zv(h:p:=by
 refine(oB u s t f x.place N W ⟨GA,gn,gc,MA,mn,mc,PA,pn,pc⟩ ⟨bP,cg,bQ,TA,tn,tc,HA,hn,hc⟩ QA qm qc ⟨aJ.hU.ok,aJ.hS,aJ.sm,aJ.ht,⟨cc,aJ.hp,cw.1⟩,ab.2.2.2.2.2.1,ab.2.2.2.2.2.2.1,ab.2.2.2.2.2.2.2.place⟩).mono ?_;rintro e aL ⟨rfl,bY⟩;rw[hE aJ.ht];have ag:Ext W aL:=Fr.of bY;have ce:=cw.2.2.2;generalize bu u s f x.place=R at *;obtain⟨aD,z⟩:=R;have aZ:=ae ce;clear ce bY a0 al af b0 am aw d0 aQ aR;have cP:=ab.1.size;have dv:=ab.2.2.2.2.1.lt;have bs:=ae ag;have ct:=ag.size;obtain⟨a0,al,af⟩:=(ab.2.1.aj ag).two;obtain⟨b0,am,aw⟩:=(ab.2.2.1.aj ag).two;obtain⟨d0,aQ,aR⟩:=(ab.2.2.2.1.aj ag).two;clear ag;by_cases bi:z=0
 case neg=>
  have b6:=ae (ap.bad bi);have q1:(z != 0)=true:=by simpa using bi
  clear bi ap aZ;go_wp2_with(fail);refine(kq s ⟨bP,cg,bQ,TA,tn,tc,HA,hn,hc⟩ z aL (ab.2.2.2.2.2.2.1.on bs.o) aJ.sm).mono ?_;exact yT
 have q1:(z != 0)=false:=by simpa using bi
 have aS:=aZ.2 bi;have bb:=kZ aJ.hU.ok;have cm:aD<=5000:=by simp only at aS;omega
 have bn:=ae bi;clear bi aS bb;by_cases bt:x.op=4
 .have c8:(x.op == 4)=true:=by simpa using bt
  have q5:(x.op == 5)=false:=by simp;omega
  have K:=ae (ap.lf bn.o bt);have ao:=ae (ap.ln bn.o bt);clear bt ap;go_wp2_with(fail);refine(Db MA TA mn mc tn tc u.af s.table aD t aL (ab.2.2.2.2.2.1.on bs.o).at_.m.na aJ.hU.ok.xK (ab.2.2.2.2.2.2.1.on bs.o).at_.t.holds cw.2.1 ad ad).mono ?_;intro e aV a6;obtain⟨a1,aW,rfl,cA,cj,aE,bv⟩:=a6.open_ (n:=tn) (by rw[eD];exact br.2.2.2.2.symm);have aa:tn=(eV u.af s.table aD t).length:=by rw[eD];exact br.2.2.2.2
  have b1:=ak aE aa;have aT:=ae (show Ext W aV from bs.trans (Fr.of bv));have bz:=bv.size;generalize hT:eV u.af s.table aD t=T at *;clear a6 cj aE bv aa hT a0 al af b0 am aw d0 aQ aR;obtain⟨b0,am,aw⟩:=(ab.2.2.1.aj aT.o).two;obtain⟨d0,aQ,aR⟩:=(ab.2.2.2.1.aj aT.o).two
  cases bO:free u.af s.table aD t with
  | true=>
   exact Fh
  | false=>
   have b6:=ae (ao.o bO);clear K ao;go_wp2_with(fail);refine(rv s ⟨bP,cg,bQ,TA,tn,tc,HA,hn,hc⟩ aV (ab.2.2.2.2.2.2.1.on aT.o) aJ.sm).mono ?_;rintro e bV ⟨⟨aN,aU,a3,S,m,aX,bG,cd,aO⟩,rfl,b2,a7⟩;have cT:=ae b2;have bL:=(ab.2.2.2.2.1.aj aT.o).aj a7;have a2:=ak bL ((ab.1.trans aT.o).trans a7);clear b2 a7 b0 am aw d0 aQ aR;obtain⟨bh,an,aM⟩:=bL.two;clear bL;go_wp2_with(fail);generalize hX:World.setCell _ _ _=Z;obtain⟨bq,a5,a4⟩:=bk (w:=w) [.slice aN aU a3,.slice S m aX,.slice bG cd aO,.int .i64 s.fault] (by rfl) a2.1 a2.2 ad hX;have i:=ak a5 a4;clear hX a5 a4 bh an aM;obtain⟨bh,an,aM⟩:=bq.two;refine Ke (v:=.tuple #[.agg #[.slice aN aU a3,.slice S m aX,.slice bG cd aO,.int .i64 s.fault],.bool false]) (by simp[results,Tryz.results25,go_sem,bh]) rfl ?_;rw[b6.o];show cH lO w s false _ _
   exact dS (aB:=s) (q:=⟨aN,aU,a3,S,m,aX,bG,cd,aO⟩) (cT.mono λb O=>.inr O) i.2 (λb O=>ad) ad i.1
 .have cl:x.op=5:=ad;have c8:(x.op == 4)=false:=by simpa using bt
  have q5:(x.op == 5)=true:=by simpa using cl
  have K:=ae (ap.uf bn.o cl);have ao:=ae (ap.un bn.o cl);clear bt cl ap;go_wp2_with(fail);refine(vu MA TA mn mc tn tc u.af s.table aD t aL aJ.hU.ok.xK (ab.2.2.2.2.2.2.1.on bs.o).at_.t.holds cw.2.1 ad).mono ?_;intro e aV a6;obtain⟨a1,aW,rfl,cA,cj,aE,bv⟩:=a6.open_ (n:=tn) (by rw[ez];exact br.2.2.2.2.symm);have aa:tn=(cJ u.af s.table aD t).length:=by rw[ez];exact br.2.2.2.2
  have b1:=ak aE aa;have aT:=ae (show Ext W aV from bs.trans (Fr.of bv));have bz:=bv.size;generalize hT:cJ u.af s.table aD t=T at *;clear a6 cj aE bv aa hT a0 al af b0 am aw d0 aQ aR;obtain⟨b0,am,aw⟩:=(ab.2.2.1.aj aT.o).two;obtain⟨d0,aQ,aR⟩:=(ab.2.2.2.1.aj aT.o).two
  cases bO:heldBy u.af s.table aD t with
  | true=>
   exact Fh
  | false=>
   have b6:=ae (ao.o bO);clear K ao;go_wp2_with(fail);refine(kq s ⟨bP,cg,bQ,TA,tn,tc,HA,hn,hc⟩ 3 aV (ab.2.2.2.2.2.2.1.on aT.o) aJ.sm).mono ?_;rintro e bV ⟨⟨aN,aU,a3,S,m,aX,bG,cd,aO⟩,rfl,b2,a7⟩;have cT:=ae b2;have bL:=(ab.2.2.2.2.1.aj aT.o).aj a7;have a2:=ak bL ((ab.1.trans aT.o).trans a7);clear b2 a7 b0 am aw d0 aQ aR;obtain⟨bh,an,aM⟩:=bL.two;clear bL;go_wp2_with(fail);generalize hX:World.setCell _ _ _=Z;obtain⟨bq,a5,a4⟩:=bk (w:=w) [.slice aN aU a3,.slice S m aX,.slice bG cd aO,.int .i64 3] (by rfl) a2.1 a2.2 ad hX;have i:=ak a5 a4;clear hX a5 a4 bh an aM;obtain⟨bh,an,aM⟩:=bq.two;refine Ke (v:=.tuple #[.agg #[.slice aN aU a3,.slice S m aX,.slice bG cd aO,.int .i64 3],.bool true]) (by simp[results,Tryz.results25,go_sem,bh]) rfl ?_;rw[b6.o];show cH lO w {s with fault:=3} true _ _
   exact dS (aB:={s with fault:=3}) (q:=⟨aN,aU,a3,S,m,aX,bG,cd,aO⟩) cT.o i.2 (λb O=>ad) ad i.1
 ):p:=h
theorem gL(h:p:=by
 obtain⟨eo,en,es,EA,em,ec,QA,qm,qc,dg,j,dh,KA,de,kc⟩:=v;have bB:cQ (bp u) cc.locals cc.aq x.place:=by
  exact x1
 have rV:tn=s.table.length:=by have:=hs.at_.t.1;simpa using this.symm
 have az:=h.hS.xB;have cz:t<=1000:=ad;have cO:=h.hS.tok bo;have ce:=iJ (s:=s) (nl:=cc.locals) (nk:=f.aq.length) h.hU.ok h.hF (Int.le_refl _) (by rw[h.hF.ru h.hp];exact bB);have c4:=h.pc;have ap:=ae (IP (u:=u) (s:=s) (t:=t) (f:=f) (x:=x) cf);have aJ:=ae h;have br:=dT cr c9 bx b3 rV;have cw:=b9 bB cO c4 ce;have bR:=av hu hs bD;clear h cr c9 cn bx b3 rV bB cO ce c4 az hu hs bD;dsimp only[UV.val,SV.val,IV.val];go_enter func25,ntmps25;exact zu
 ):p:=h
end BL
open BL in
theorem HB(u:ay)(s:ah)(t:Int)(f:ai)(cc:cG)(x:ax)(N:Nat)(w:World)(p:UV)(q:SV)(v:IV)(h:je u s t f cc x N)(bo:N<=100000)(cf:x.op=4\/x.op=5)(hu:p.Ok w u)(hs:q.Ok w s)(bD:v.Ok w x) :
  Calls prog 25 #[.agg (p.val u),.agg (q.val s),.int .i64 t,.agg (v.val x)] w (cH lO w (bU u s t f x).1 (bU u s t f x).2):=by
 obtain⟨cr,c9,cn,fs,bx,b3⟩:=h.th;exact gK
theorem df.pop{q:SV}{xs:List Value}{F1 F2 bj bI:List Nat}(h:df B w s N q xs F1 F2 bj bI){k:Nat}(bx:s.threads[k]?=some (fs++[f])):
  ∃O bT fc,q.HA=some ⟨O,0,none⟩/\k<q.hn/\O<w.heap.size/\O≠N/\B<=O/\(∀j,w.frozen? ⟨O,j,none⟩=false)/\w.cell? ⟨O,k,none⟩=some (.slice (some ⟨bT,0,none⟩) (fs.length+1) fc)/\fs.length+1<=fc/\
   ∀X,w.setCell ⟨O,k,none⟩ (.slice (some ⟨bT,0,none⟩) fs.length fc)=X->∃o d,df B X {s with threads:=s.threads.set k fs} N q o F1 F2 bj d:=by
 obtain⟨O,bT,fc,IA,i,ic,bo,l,lc,lJ,aT,bB,b3,aE,aP,I,hl,hc,ax,c0,c1,c2,c3,g,a,c4,hints,z⟩:=h.st.top bx;have bu:O∈F1++(F2++(bj++bI)):=by simp[aE]
 refine⟨O,bT,fc,lJ,aT,bB,λhe=>h.ne (he▸bu),(h.lo _ bu).1,g,hc,ax,λX hX=>?_⟩;obtain⟨o,d,ch,R⟩:=z;subst hX;have t:∀b,b∈F1++(F2++(bj++d))->b∈F1++(F2++(bj++bI)):=λb O=>by
  simp only[JR] at O ⊢;rcases O with O|O|O|O
  .exact .inl O
  .exact .inr (.inl O)
  .exact .inr (.inr (.inl O))
  .exact .inr (.inr (.inr (R b O)))
 exact⟨o,d,ch,h.o.Ie (λhe=>h.ne (he▸bu)) _,λaS=>h.ne (t _ aS),λb O=>⟨(h.lo b (t b O)).1,by simpa[World.setCell] using (h.lo b (t b O)).2⟩,h.go⟩
theorem df.drew{B:Nat}{w:World}{s:ah}{N:Nat}{q:SV}{xs:List Value}{F1 F2 bj bI:List Nat}(h:df B w s N q xs F1 F2 bj bI):df B w.drew s N q xs F1 F2 bj bI:=h.aj Kf.drew
theorem wv(h:s.threads[t.toNat]?=some (fs++[f])):sH s t={s with threads:=s.threads.set t.toNat fs}:=by
 unfold sH;rw[kr h,jY]
theorem pj(h:dJ s t=some f)(hx:dD u s t=some x):bM u s t=bU u s t f x:=by
 unfold bM;rw[h,hx]
theorem pg(h:dJ s t=none):bM u s t=(s,false):=by
 unfold bM;rw[h]
theorem wC(h:x.op=7):bU u s t f x=(bg s t {f with pc:=x.target},true):=by
 unfold bU;rw[if_neg ad,if_neg ad,if_neg ad,if_pos h]
theorem wD(h:x.op=8):bU u s t f x=(sH s t,true):=by
 unfold bU;rw[if_neg ad,if_neg ad,if_neg ad,if_neg ad]
namespace BM
theorem Aa(h:p:=by
 have aj:((fs.length:Nat):Int)<=(fc:Int):=ad
 iterate 3 refine pf ?_
 refine az rfl (λK hK=>?_);go_simp;refine eC hK ?_;clear hK K;refine aG ?_;generalize hX:World.setCell _ _ _=Y;obtain⟨aD,ao,n⟩:=ai.o Y hX;have L:=da hX;have cS:Ext W Y:=Fr.low (M:=λb=>b=O) (Fr.trans (Fr.mono cx.2.1 λ_ h=>h.elim) L) λb O=>ad;have G:=ae n;clear hX n L e0 bl bm d0 aQ aR Q c3;have a2:=ak (ab.2.2.2.1.aj cS) (ab.1.trans cS);obtain⟨bh,an,aM⟩:=a2.1.two;obtain⟨e0,bl,bm⟩:=G.o.o.two;clear cS;go_wp2_with(fail);generalize hX:World.setCell _ _ _=Z;obtain⟨bq,a5,a4⟩:=bk (w:=w) [.slice b7 cg a3,.slice bW tn aX,.slice (some ⟨O,0,none⟩) hn aO,.int .i64 s.fault] (by rfl) a2.1 a2.2 ad hX;have bn:=ak a5 a4;clear hX a5 a4 bh an aM e0 bl bm;obtain⟨bh,an,aM⟩:=bq.two;refine Ke (v:=.tuple #[.agg #[.slice b7 cg a3,.slice bW tn aX,.slice (some ⟨O,0,none⟩) hn aO,.int .i64 s.fault],.bool true]) (by simp[results,Tryz.results8,go_sem,bh]) rfl ?_;rw[b6.o];show cH lO w (sH s t) true _ _
 exact gi (aB:=sH s t) (q:=⟨b7,cg,a3,bW,tn,aX,(some ⟨O,0,none⟩),hn,aO⟩) G.o bn.2.drew (λb O=>ad) ad bn.1.drew (by rw[wv br.2.1])
 ):p:=h
theorem eI(h:p:=by
 generalize hX:World.setCell _ _ _=Y;have n:df V.heap.size Y {s with threads:=s.threads.set t.toNat (fs++[{f with pc:=x.target}])} bV.heap.size ⟨b7,cg,a3,bW,tn,aX,bL,hn,aO⟩ xs F1 F2 bj bI:=hX▸aK.pc x.target;have L:=da hX;have dD:=aK.ge;have cS:Ext W Y:=Fr.low (M:=λb=>b=c1) (Fr.trans (Fr.mono b4.o λ_ h=>h.elim) L) λb O=>ad;have G:=ae n;clear hX n L bX g2 cv aK;have a2:=ak (ab.2.2.2.1.aj cS) (ab.1.trans cS);obtain⟨bh,an,aM⟩:=a2.1.two;obtain⟨e0,bl,bm⟩:=G.o.o.two;clear cS;go_wp2_with(fail);generalize hX:World.setCell _ _ _=Z;obtain⟨bq,a5,a4⟩:=bk (w:=w) [.slice b7 cg a3,.slice bW tn aX,.slice bL hn aO,.int .i64 s.fault] (by rfl) a2.1 a2.2 ad hX;have bn:=ak a5 a4;clear hX a5 a4 bh an aM e0 bl bm;obtain⟨bh,an,aM⟩:=bq.two;refine Ke (v:=.tuple #[.agg #[.slice b7 cg a3,.slice bW tn aX,.slice bL hn aO,.int .i64 s.fault],.bool true]) (by simp[results,Tryz.results8,go_sem,bh]) rfl ?_;rw[b6.o];show cH lO w (bg s t {f with pc:=x.target}) true _ _
 exact gi (aB:=bg s t {f with pc:=x.target}) (q:=⟨b7,cg,a3,bW,tn,aX,bL,hn,aO⟩) G.o bn.2 (λb O=>ad) ad bn.1 (by rw[dG br.2.1])
 ):p:=h
end BM
open BM in
theorem Dh(u:ay)(s:ah)(t:Int)(N:Nat)(w:World)(p:UV)(q:SV)(hU:xX u)(hS:aV u N s)(bo:N<=100000)(hu:p.Ok w u)(hs:q.Ok w s) :
  Calls prog 8 #[.agg (p.val u),.agg (q.val s),.int .i64 t] w (cH lO w (bM u s t).1 (bM u s t).2):=by
 have HA:=av hU hS (hS.small hU.ok bo);have bR:=ak hu hs;clear hU hS hu hs;obtain⟨GA,gn,gc,MA,mn,mc,PA,pn,pc⟩:=p;obtain⟨bP,cg,bQ,TA,tn,tc,bG,hn,hc⟩:=q;dsimp only[UV.val,SV.val];go_enter func8,ntmps8;go_upto_region 1 with(fail);generalize ba:World.alloc _ _=W;have ar:=l6 ba;have bH:=jV ba;have bJ:=iF ba;have cq:=jD ba;have ab:=dq ar bH bJ cq (bR.1.on ar) (bR.2.on ar);have cP:=ar.size;have dv:=cq.lt;obtain⟨a0,al,af⟩:=bH.two;obtain⟨b0,am,aw⟩:=bJ.two;clear ba ar bH bJ cq bR
 cases htop:dJ s t with
 | none=>
  have b6:=ae (pg (u:=u) htop);have y:=ae htop;clear htop;go_wp2_with(fail);refine(ss u s t W ⟨GA,gn,gc,MA,mn,mc,PA,pn,pc⟩ ⟨bP,cg,bQ,TA,tn,tc,bG,hn,hc⟩ ab.2.2.2.2.2 y.o).mono ?_;rintro e aL ⟨rfl,ag⟩;have bs:=ae ag;clear a0 al af b0 am aw;go_upto_region 2 with(fail);generalize hV:World.alloc _ _=V;have a9:Ext W V:=hV▸ag.alloc _;have dn:=a9.size;obtain⟨b0,am,aw⟩:=(ab.2.2.1.aj a9).two;have b9:=ae a9;clear hV a9 ag;go_wp2_with(fail);refine(rv s ⟨bP,cg,bQ,TA,tn,tc,bG,hn,hc⟩ V (ab.2.2.2.2.2.on b9.o) HA.2.2).mono ?_;rintro e bV ⟨⟨b7,aU,a3,bW,m,aX,bL,cd,aO⟩,rfl,R,a7⟩;have b2:=R.mono (c5:=λk=>lO k\/(V.heap.size<=k/\k<bV.heap.size)) λb O=>.inr O;clear R b0 am aw;have a2:=ak ((ab.2.2.2.1.aj b9.o).aj a7) ((ab.1.trans b9.o).trans a7);have cT:=ae b2;clear b2 a7;obtain⟨bh,an,aM⟩:=a2.1.two;go_wp2_with(fail);generalize hX:World.setCell _ _ _=Z;obtain⟨bq,a5,a4⟩:=bk (w:=w) [.slice b7 aU a3,.slice bW m aX,.slice bL cd aO,.int .i64 s.fault] (by rfl) a2.1 a2.2 ad hX;have bn:=ak a5 a4;clear hX a5 a4 bh an aM;obtain⟨bh,an,aM⟩:=bq.two;refine Ke (v:=.tuple #[.agg #[.slice b7 aU a3,.slice bW m aX,.slice bL cd aO,.int .i64 s.fault],.bool false]) (by simp[results,Tryz.results8,go_sem,bh]) rfl ?_;rw[b6.o];show cH lO w s false _ _
  exact dS (aB:=s) (q:=⟨b7,aU,a3,bW,m,aX,bL,cd,aO⟩) cT.o bn.2 (λb O=>ad) ad bn.1
 | some f=>
  obtain⟨cc,x,i,J⟩:=je.of HA.1 HA.2.1 bo htop;have S:=ae (pj htop J);have l:=ae i;have r:x.op=1\/x.op=2\/x.op=3\/x.op=4\/x.op=5\/x.op=6\/x.op=7\/x.op=8:=by
   exact x5
  have aa:=ae r;clear htop J i r;go_wp2_with(fail);refine(su u s t f cc x W ⟨GA,gn,gc,MA,mn,mc,PA,pn,pc⟩ ⟨bP,cg,bQ,TA,tn,tc,bG,hn,hc⟩ ⟨l.sm,l.ht,l.hp,l.hx,l.hF.proc,l.pc.1,l.il,l.kl,ab.2.2.2.2.1,ab.2.2.2.2.2⟩).mono ?_;rintro e aL ⟨⟨eo,en,es,EA,em,ec,QA,qm,qc,dg,j,dh,KA,de,kc⟩,rfl,bD,ag⟩;have dw:=ak bD ag;clear a0 al af b0 am aw bD ag;dsimp only[IV.val];go_upto_region 2 with(fail);generalize hV:World.alloc _ _=V;have ct:=aY hV;have dy:=aF hV;have a9:Ext W V:=dw.2.trans ct;have dn:=a9.size;have dk:=dy.lt;have b9:=ae a9;have dC:=ae (dw.1.on ct);obtain⟨a0,al,af⟩:=(ab.2.1.aj a9).two;obtain⟨b0,am,aw⟩:=(ab.2.2.1.aj a9).two;obtain⟨d0,aQ,aR⟩:=dy.two;have bN:=ae dy;clear hV a9 ct dy dw;have dK:w.heap.size+2<V.heap.size:=ad;rcases aa.o with h|h|h|h|h|h|h|h
  all_goals
   first
    | have q1:(x.op == 1)=true:=by simpa using h
    | have q1:(x.op == 1)=false:=by simp;omega
   first
    | have cM:(x.op == 2)=true:=by simpa using h
    | have cM:(x.op == 2)=false:=by simp;omega
   first
    | have c7:(x.op == 3)=true:=by simpa using h
    | have c7:(x.op == 3)=false:=by simp;omega
   first
    | have c8:(x.op == 4)=true:=by simpa using h
    | have c8:(x.op == 4)=false:=by simp;omega
   first
    | have q5:(x.op == 5)=true:=by simpa using h
    | have q5:(x.op == 5)=false:=by simp;omega
   first
    | have dl:(x.op == 6)=true:=by simpa using h
    | have dl:(x.op == 6)=false:=by simp;omega
   first
    | have q7:(x.op == 7)=true:=by simpa using h
    | have q7:(x.op == 7)=false:=by simp;omega
   first
    | have dF:(x.op == 8)=true:=by simpa using h
    | have dF:(x.op == 8)=false:=by simp;omega
  iterate 6
   ·
    have T:=ae h;clear h;go_wp2_with(fail)
    first
     | refine(uy u s t f cc x N V ⟨bP,cg,bQ,TA,tn,tc,bG,hn,hc⟩ ⟨eo,en,es,EA,em,ec,QA,qm,qc,dg,j,dh,KA,de,kc⟩ l.o (aC T.o) (ab.2.2.2.2.2.on b9.o) dC.o).mono ?_
     | refine(Hy u s t f cc x N V ⟨GA,gn,gc,MA,mn,mc,PA,pn,pc⟩ ⟨bP,cg,bQ,TA,tn,tc,bG,hn,hc⟩ ⟨eo,en,es,EA,em,ec,QA,qm,qc,dg,j,dh,KA,de,kc⟩ l.o (aC T.o) (ab.2.2.2.2.1.on b9.o) (ab.2.2.2.2.2.on b9.o) dC.o).mono ?_
     | refine(HB u s t f cc x N V ⟨GA,gn,gc,MA,mn,mc,PA,pn,pc⟩ ⟨bP,cg,bQ,TA,tn,tc,bG,hn,hc⟩ ⟨eo,en,es,EA,em,ec,QA,qm,qc,dg,j,dh,KA,de,kc⟩ l.o bo (aC T.o) (ab.2.2.2.2.1.on b9.o) (ab.2.2.2.2.2.on b9.o) dC.o).mono ?_
    have H:=ae S.o;generalize bU u s t f x=ap at *;obtain⟨aB,b⟩:=ap;rintro e bV ⟨⟨b7,aU,a3,bW,m,aX,bL,cd,aO⟩,rfl,b2,a7⟩;clear a0 al af b0 am aw d0 aQ aR;have a2:=ak ((ab.2.2.2.1.aj b9.o).aj a7) ((ab.1.trans b9.o).trans a7);have cT:=ae b2;clear b2 a7;obtain⟨bh,an,aM⟩:=a2.1.two;go_wp2_with(fail);generalize hX:World.setCell _ _ _=Z;obtain⟨bq,a5,a4⟩:=bk (w:=w) [.slice b7 aU a3,.slice bW m aX,.slice bL cd aO,.int .i64 aB.fault] (by rfl) a2.1 a2.2 ad hX;have bn:=ak a5 a4;clear hX a5 a4 bh an aM;obtain⟨bh,an,aM⟩:=bq.two;refine Ke (v:=.tuple #[.agg #[.slice b7 aU a3,.slice bW m aX,.slice bL cd aO,.int .i64 aB.fault],.bool b]) (by simp[results,Tryz.results8,go_sem,bh]) rfl ?_;rw[H.o];show cH lO w aB b _ _
    exact dS (aB:=aB) (q:=⟨b7,aU,a3,bW,m,aX,bL,cd,aO⟩) cT.o bn.2 (λb O=>ad) ad bn.1
  ·
   have b6:=ae (S.trans (wC h));clear h;go_wp2_with(fail);refine(fa s bP TA bG cg bQ tn tc hn hc V (ab.2.2.2.2.2.on b9.o).at_ HA.2.2).mono ?_;rintro e bV ⟨b7,a3,bW,aX,bL,aO,xs,F1,F2,bj,bI,rfl,ch,bc,a7⟩;have cb:=av ch bc a7;have cu:=a7.size;clear ch bc a7 b0 am aw a0 al af d0 aQ aR;go_upto_region 15 with(fail);generalize hU:World.alloc _ _=U;have ci:=aY hU;have cK:=aF hU;have hOut:df V.heap.size U s bV.heap.size ⟨b7,cg,a3,bW,tn,aX,bL,hn,aO⟩ xs F1 F2 bj bI:=
    ⟨cb.1.al λb O=>ci.block b (cb.2.1 b O).2 λh=>h,cK,λO=>by have:=(cb.2.1 _ O).2;omega,λb O=>⟨(cb.2.1 b O).1,by have:=(cb.2.1 b O).2;have:=ci.size;omega⟩,cu⟩
   have b8:Ext V U:=cb.2.2.trans ci;have bO:=b9.trans b8;obtain⟨cr,c9,cn,fs,bx,b3⟩:=l.th;have pJ:hn=s.threads.length:=by have:=ab.2.2.2.2.2.at_.h.1;simpa using this.symm
   have dA:t<(hn:Int):=ad;have br:=av cr bx b3;have cx:=av hOut bO b8;obtain⟨e0,bl,bm⟩:=hOut.o.two;clear hU ci cK hOut b8 bO cr cn bx b3 pJ;obtain⟨c1,dx,i2,cN,dd,dp,di,c0,bZ,be,P⟩:=cx.1.top br.2.1 c9 br.1 br.2.2;have b1:=ak be P;obtain⟨d0,aQ,aR⟩:=(show au U aL.heap.size 77 _ from bN.aj cx.2.2).two;clear be P c0 bZ;go_upto_region 16 with(fail);refine fj (λ_=>False) [(0,0),(1,3),(3,3),(4,0),(2,1),(5,3),(6,3),(7,2)] ?_;refine ph ?_
   iterate 2 refine pf ?_
   refine ph ?_;refine aP rfl (λK hK=>?_);go_simp;refine(b1.1 U.drew Kf.drew).mono ?_;rintro e cE ⟨rfl,aA⟩;have aK:=ae (b1.2 cE (Fr.aL aA));have b4:=ae (cx.2.1.trans (Fr.aL aA));refine gu hK (aA) ?_;clear hK K;clear aA e0 bl bm d0 aQ aR
   iterate 2 refine pf ?_
   have bX:=aK.c1;have g2:=aK.fz;have cv:=aK.lt;exact gM
  ·
   have b6:=ae (S.trans (wD h));clear h;go_wp2_with(fail);refine(fa s bP TA bG cg bQ tn tc hn hc V (ab.2.2.2.2.2.on b9.o).at_ HA.2.2).mono ?_;rintro e bV ⟨b7,a3,bW,aX,bL,aO,xs,F1,F2,bj,bI,rfl,ch,bc,a7⟩;have cb:=av ch bc a7;have cu:=a7.size;clear ch bc a7 b0 am aw a0 al af d0 aQ aR;go_upto_region 15 with(fail);generalize hU:World.alloc _ _=U;have ci:=aY hU;have cK:=aF hU;have hOut:df V.heap.size U s bV.heap.size ⟨b7,cg,a3,bW,tn,aX,bL,hn,aO⟩ xs F1 F2 bj bI:=
    ⟨cb.1.al λb O=>ci.block b (cb.2.1 b O).2 λh=>h,cK,λO=>by have:=(cb.2.1 _ O).2;omega,λb O=>⟨(cb.2.1 b O).1,by have:=(cb.2.1 b O).2;have:=ci.size;omega⟩,cu⟩
   have b8:Ext V U:=cb.2.2.trans ci;have bO:=b9.trans b8;obtain⟨cr,c9,cn,fs,bx,b3⟩:=l.th;have pJ:hn=s.threads.length:=by have:=ab.2.2.2.2.2.at_.h.1;simpa using this.symm
   have dA:t<(hn:Int):=ad;have br:=av cr bx b3;have cx:=av hOut bO b8;obtain⟨e0,bl,bm⟩:=hOut.o.two;clear hU ci cK hOut b8 bO cr cn bx b3 pJ;obtain⟨O,bT,fc,lJ,aT,bB,bK,aq,c3,Q,ax,z⟩:=cx.1.pop br.2.1;simp only at lJ;subst lJ;have ai:=ae z;have du:=br.2.2;obtain⟨d0,aQ,aR⟩:=(show au U aL.heap.size 77 _ from bN.aj cx.2.2).two;clear z;go_upto_region 18 with(fail);exact z9
def E8(P:Nat->Prop)(w:World)(s:ah)(e:Ending)(J:World):Prop:=∃q:SV,e=.returned (.agg (q.val s))/\q.Is J (λk=>P k\/(w.heap.size<=k/\k<J.heap.size)) s/\Ext w J
theorem wq(u:ay):dI u=⟨u.globals,List.replicate (own u.af).length ⟨0,0⟩,[[cU u u.main [] []]],0⟩:=rfl
theorem cB.below{α:Type}{f:α->List Value}{sz:Nat}{J:World}{n:Nat}{A:Kj}{l:List α}(h:cB (EF f) sz w B A n l)(aj:∀b,b<B->J.heap[b]?=w.heap[b]?):cB (EF f) sz J B A n l:=by
 refine⟨h.1,λhn=>?_⟩;obtain⟨b,o,bu,O,hc⟩:=h.2 hn;refine⟨b,o,bu,O,λk x hx=>?_⟩;obtain⟨cs,he,hl,be⟩:=hc k x hx;exact⟨cs,he,hl,λj v bD=>(World.cell?_of_block (w:=w) (aj b O)).trans (be j v bD)⟩
theorem Ew(A:Kj)(n c:Nat)(X:List bI)(w:World)(h:cB (EF fO) 3 w w.heap.size A n X)(hX:l5 X) :
  Calls prog 20 #[.slice A n c] w λr J=>∃a1 aW,r=.returned (.slice a1 (own X).length aW)/\J.ownsRow w.heap.size 89 2 (.slice a1 (own X).length aW) (own X).length ((List.replicate (own X).length ⟨0,0⟩).flatMap bA)/\Below w.heap.size w J:=by
 go_enter func20,ntmps20;go_wp2_with(fail);refine(g4 A n c X w h hX).mono ?_;rintro e aL ⟨rfl,O⟩;have d:=dR X;have a:=cq hX;generalize bo:(own X).length=N at *;rw[<-d];clear d;have af:=λW=>run_mk kf .i64 .i64 N ad ad W;go_wp2;go_ret;have G:=O.size;have aE:=rC (e:=89) (f:=bA) (x:=⟨0,0⟩) (zc:=#[.int .i64 0,.int .i64 0]) (sz:=2) rfl rfl ad N ad (w:=aL) (base:=w.heap.size) G;rw[bo];exact⟨_,_,rfl,aE,O.alloc G _⟩
namespace BN
theorem eI(h:p:=by
 generalize hX:World.setCell _ _ _=Z;have G:Ext w V:=((ab.1.trans aT.o).trans cb.2.1).trans s.1;obtain⟨bq,a5,a4⟩:=bk (w:=w) [.slice aN gn a3,.slice S (own u.af).length aX,.slice (some ⟨bV.heap.size+1,0,none⟩) 1 1,.int .i64 0] (by rfl) aw.o G ad hX;have bn:=ak a5 a4;clear hX a5 a4 bh an aM G;obtain⟨bh,an,aM⟩:=bq.two;clear bq;go_wp2_with(fail);refine Ke (v:=.agg #[.slice aN gn a3,.slice S (own u.af).length aX,.slice (some ⟨bV.heap.size+1,0,none⟩) 1 1,.int .i64 0]) (by simp[results,Tryz.results6,go_sem,bh]) rfl ?_;have cF:=bn.2.size;have i:∀b,b<V.heap.size->b≠w.heap.size+1->Z.heap[b]?=V.heap[b]?:=λb ac ap=>bn.2.block b ac ap;have ai:w.heap.size+1<W.heap.size:=dv;have cp:∀b,aL.heap.size<=b->b<V.heap.size->Z.heap[b]?=V.heap[b]?:=λb ac ap=>i b ap ad;have g:Own Z 3 1 aN gn a3 (u.globals.map cX) (bd aN gn a3):=H1.1.al λb O=>by
  have:=H1.2.1 b O;have bc:W.drew.heap.size=W.heap.size:=rfl;exact(i b ad ad).trans ((s.1.block b ad λh=>h).trans ((cb.2.1.block b ad λh=>h).trans (bO.2.2.block b ad λh=>h)))
 have bC:gn=u.globals.length:=by have:=(ab.2.2).at_.g.1;rw[JM] at this;exact this.symm
 have bc:W.drew.heap.size=W.heap.size:=rfl;have hG:Sl Z (λk=>False\/(w.heap.size<=k/\k<Z.heap.size)) aN gn (u.globals.map D.i):=g.sl (ck _) (by simp[bC]) λb O=>by
  have:=H1.2.1 b O;exact .inr ⟨ad,ad⟩
 have F:Own Z 89 2 S (own u.af).length aX ((List.replicate (own u.af).length ⟨0,0⟩).flatMap bA) (bd S (own u.af).length aX):=bO.1.al λb O=>by
  have:=bO.2.1 b O;exact(i b ad ad).trans ((s.1.block b ad λh=>h).trans (cb.2.1.block b ad λh=>h))
 have hT:Sl Z (λk=>False\/(w.heap.size<=k/\k<Z.heap.size)) S (own u.af).length ((List.replicate (own u.af).length ⟨0,0⟩).map kE):=F.sl (dd _) (by simp) λb O=>by
  have:=bO.2.1 b O;exact .inr ⟨ad,ad⟩
 have H:=s.2.1.on bn.2 ad;have I:=s.2.2.on bn.2 ad;have Q:=s.2.1.lt;have l:(dP R).rep Z (λk=>False\/(w.heap.size<=k/\k<Z.heap.size)) [.int .i64 R.proc,.int .i64 R.pc,.slice FA ds aZ,.slice dB fl b1]:=D.aA (λb O=>.inr ⟨by have:=O.1;omega,by have:=O.2;omega⟩) _ _ (D.aD (λb O=>(i b (aC O.2) (aC O.1)).trans (s.1.block b O.2 λh=>h)) _ _ cb.1);have hF:Sl Z (λk=>False\/(w.heap.size<=k/\k<Z.heap.size)) (some ⟨bV.heap.size,0,none⟩) 1 ([R].map dP):=⟨rfl,λ_=>⟨bV.heap.size,0,_,rfl,.inr ⟨ad,ad⟩,D.bt.2 l,λj v be=>by
  rw[J0,H.cell];simpa using be⟩⟩
 have hH:Sl Z (λk=>False\/(w.heap.size<=k/\k<Z.heap.size)) (some ⟨bV.heap.size+1,0,none⟩) 1 ([[R]].map jg):=⟨rfl,λ_=>⟨bV.heap.size+1,0,[.slice (some ⟨bV.heap.size,0,none⟩) 1 1],rfl,.inr ⟨ad,ad⟩,D.bt.2 (ei.2 ⟨_,1,1,rfl,JI _,hF⟩),λj v be=>by
  rw[J0,I.cell];simpa using be⟩⟩
 have y:dI u=⟨u.globals,List.replicate (own u.af).length ⟨0,0⟩,[[R]],0⟩:=by rw[wq,cb.2.2]
 rw[y];have N:(⟨aN,gn,a3,S,(own u.af).length,aX,some ⟨bV.heap.size+1,0,none⟩,1,1⟩:SV).Is Z (λk=>False\/(w.heap.size<=k/\k<Z.heap.size)) ⟨u.globals,List.replicate (own u.af).length ⟨0,0⟩,[[R]],0⟩:=⟨⟨hG,hT,hH⟩,g.cap,F.cap,JI _⟩
 exact⟨⟨aN,gn,a3,S,(own u.af).length,aX,some ⟨bV.heap.size+1,0,none⟩,1,1⟩,rfl,N,bn.1⟩
 ):p:=h
theorem kT(h:p:=by
 have ab:=av ar cq (bR.on ar);have cP:=ar.size;have dv:=cq.lt;obtain⟨a0,al,af⟩:=aK.two;clear ba ar aK cq bR;refine fj (λ_=>False) [(0,3),(1,0),(3,3),(4,0),(6,0),(7,3),(8,0),(2,1),(5,1),(9,2),(10,2),(11,3),(12,2),(13,3),(14,2)] ?_;refine pf ?_;refine ph ?_;refine pf ?_
 iterate 2 refine ph ?_
 refine pf ?_;refine ph ?_;refine aP rfl (λK hK=>?_);go_simp;refine(Sl.kY (ab.2.2.on (Fr.refl _ W).drew).at_.g rU).mono ?_;rintro r aL ⟨aN,a3,rfl,E,z,L⟩;have H1:=av E z (Fr.aL L);refine gu hK (L) ?_;clear hK K;clear E z L;refine aP rfl (λK hK=>?_);go_simp;refine(Ew MA mn mc u.af aL (ab.2.2.on H1.2.2).at_.m.na cx.1.ok.xK).mono ?_;rintro r aV ⟨S,aX,rfl,o,bv⟩;have f:Own aV 89 2 S (own u.af).length aX ((List.replicate (own u.af).length ⟨0,0⟩).flatMap bA) (bd S (own u.af).length aX):=⟨gC o (J4 _),rfl⟩
 have n:∀b∈bd S (own u.af).length aX,aL.heap.size<=b/\b<aV.heap.size:=λb O=>o.lt b (by simpa using O);have bO:=av f n (Fr.of (M:=λ_=>False) bv);have cg:=bv.size;refine gu hK (Fr.of bv) ?_;clear hK K;clear o f n bv;have aO:Ext W aV:=H1.2.2.trans bO.2.2;have bz:=aO.size;have ct:=H1.2.2.size;have aT:=ae aO;refine az rfl (λK hK=>?_);go_simp;refine(mframe u u.main dN [] [] none none 0 0 0 0 aV ⟨GA,gn,gc,MA,mn,mc,PA,pn,pc⟩ (ab.2.2.on aO) cx.2.1 cx.2.2.1 (by have:=cx.2.2.2.ints;simp;omega) cx.2.2.2.ints.2.2 (by simp) (Sl.c7 _) (Sl.c7 _)).mono ?_;rintro e bV ⟨FA,ds,aZ,dB,fl,b1,rfl,bY,a7⟩;generalize cI:cU u u.main [] []=R at *;have cb:=av bY a7 cI;have cu:=a7.size;have bL:=(ab.2.1.aj aO).aj a7;clear bY a7 cI aO a0 al af;have a2:=ae bL;clear bL;refine eC hK ?_;clear hK K;refine az rfl (λK hK=>?_);go_simp;refine eC hK ?_;clear hK K;refine pf ?_;refine az rfl (λK hK=>?_);go_simp;refine eC hK ?_;clear hK K;refine pf ?_;refine k8 (λV=>Ext bV V/\au V bV.heap.size 59 #[.int .i64 R.proc,.int .i64 R.pc,.slice FA ds aZ,.slice dB fl b1]/\au V (bV.heap.size+1) 56 #[.slice (some ⟨bV.heap.size,0,none⟩) 1 1]) ⟨(Kf.alloc _).alloc _,(Kg).alloc _,au.k5 _ _ _ (by simp)⟩ (λV hV=>?_);have s:=ae hV;have m:=a2.aj hV.1;have dn:=hV.1.size;have J:=hV.2.2.lt;clear hV;obtain⟨bh,an,aM⟩:=m.two;have aw:=ae m;clear m;exact gM
 ):p:=h
end BN
open BN in
theorem GI(u:ay)(w:World)(p:UV)(hU:xX u)(hu:p.Ok w u) :
  Calls prog 6 #[.agg (p.val u)] w (E8 (λ_=>False) w (dI u)):=by
 obtain⟨GA,gn,gc,MA,mn,mc,PA,pn,pc⟩:=p;obtain⟨dN,P,ag,bl,bS⟩:=hU.ok.main;have dl:=hU.ok.procs dN (JL ag);have rU:gn<=100000:=by have ac:=hu.at_.g.1;have ap:=hU.ok.lN;rw[JM] at ac;have aD:u.globals.length=gn:=ac;omega
 have cx:=b9 hU P ag dl;have bR:=ae hu;clear hU P ag bl bS dl hu;dsimp only[UV.val];go_enter func6,ntmps6;exact kS
def hy(w:World)(p:Prop)(e:Ending)(J:World):Prop:=∃b:Bool,e=.returned (.bool b)/\(b=true↔p)/\Ext w J
theorem sk{g:ai}:f=g↔f.proc=g.proc/\f.pc=g.pc/\f.ints=g.ints/\f.aq=g.aq:=by
 cases f;cases g;simp
namespace BP
theorem gO(h:p:=by
 refine cY ?_;generalize cm:World.setCell _ _ _=Y;have ap:=ej 0 [.int .i64 g.proc,.int .i64 g.pc,.slice dg z dh,.slice KA v kc] aJ.2.2 cm;have cS:Ext wr Y:=Fr.low (M:=λb=>¬b<wr.heap.size) (Fr.trans aJ.1 (ap.2.mono λb O=>ad)) λb O=>ad;have bs:au Y o 59 #[.int .i64 f.proc,.int .i64 f.pc,.slice IA x ic,.slice bo y lc]:=aJ.2.1.on ap.2 aH;have di:au Y gc 59 #[.int .i64 g.proc,.int .i64 g.pc,.slice dg z dh,.slice KA v kc]:=ap.1;have bw:=av cS bs di;obtain⟨e0,bl,bm⟩:=bs.two;clear f0 cQ cV;obtain⟨f0,cQ,cV⟩:=di.two;have bK:∀{q:Prop},¬q->(l=k->q)->(false=true↔l=k):=λac ap=>⟨λh=>(by cases h),λh=>absurd (ap h) ac⟩
 have aL:l=k->f=g:=λh=>by have ac:=b6.1;have ap:=b6.2.1;rw[h,ap] at ac;injection ac with ac;exact ac.symm
 have ay:=ak aL trivial;clear cm ap cS bs di bK aL;have aG:Ext w Y:=(ab.1.trans bd.1).trans bw.1;have U:=ae aG;clear aG;by_cases ac:f.proc=g.proc
 case neg=>
  have q5:(f.proc != g.proc)=true:=by simpa using ac
  have cL:=ae ac;clear ac;exact ya
 have q5:(f.proc != g.proc)=false:=by simpa using ac
 have H1:=ae ac;clear ac;by_cases ap:f.pc=g.pc
 case neg=>
  have dl:(f.pc != g.pc)=true:=by simpa using ap
  have cL:=ae ap;clear ap;exact ya
 have dl:(f.pc != g.pc)=false:=by simpa using ap
 have bO:=ae ap;clear ap;go_wp2_with(fail);have s:=bw.1;refine(jv IA dg x ic z dh f.ints g.ints Y (b6.2.2.1.on (Fr.ext s)) (b6.2.2.2.2.1.on (Fr.ext s)) ad).mono ?_;rintro r aV ⟨rfl,bv⟩;clear s;have aT:=ae (show Ext Y aV from Fr.of bv);clear bv e0 bl bm f0 cQ cV;obtain⟨e0,bl,bm⟩:=(bw.2.1.aj aT.o).two;obtain⟨f0,cQ,cV⟩:=(bw.2.2.aj aT.o).two
 cases aD:decide (f.ints=g.ints) with
 | false=>
  have cL:=ae (of_decide_eq_false aD);clear aD;go_wp2_with(fail);go_ret
  exact⟨false,rfl,⟨λh=>(by cases h),λh=>absurd (by rw[ay.1 h]) cL.o⟩,U.trans aT.o⟩
 | true=>
  have cb:=ae (of_decide_eq_true aD);clear aD;go_wp2_with(fail);have s:=bw.1.trans aT.o;refine(jv bo KA y lc v kc f.aq g.aq aV (b6.2.2.2.1.on (Fr.ext s)) (b6.2.2.2.2.2.on (Fr.ext s)) ad).mono ?_;rintro r bV ⟨rfl,aE⟩;clear s;have a4:=ae (show Ext aV bV from Fr.of aE);clear aE e0 bl bm f0 cQ cV
  cases bt:decide (f.aq=g.aq) with
  | false=>
   have cL:=ae (of_decide_eq_false bt);clear bt;go_wp2_with(fail);go_ret
   exact⟨false,rfl,⟨λh=>(by cases h),λh=>absurd (by rw[ay.1 h]) cL.o⟩,(U.trans aT.o).trans a4.o⟩
  | true=>
   have bg:=ae (of_decide_eq_true bt);clear bt;go_wp2_with(fail);go_roundw
   case rel=>
    have aO:f=g:=sk.2 ⟨H1.o,bO.o,cb.o,bg.o⟩;refine⟨i+1,by go_num,ad,((bd.1.trans bw.1).trans aT.o).trans a4.o,λj be=>?_⟩;by_cases ag:j=i
    .rw[ag,b6.1,b6.2.1,aO]
    .exact bd.2 j ad
   case measure=>exact aU
 ):p:=h
theorem Ac(h:p:=by
 have aM:x<=100000:=ad;have aQ:y<=100000:=ad;have b6:=dq J L Z b3 ah bC;clear ar aZ cy bz J L Z b3 ah bC bJ aS bj aA T aK S;obtain⟨ws,l4⟩:∃ws,ws=wr.heap.size:=⟨_,rfl⟩
 have b7:bT<ws:=ad;have dp:a1<ws:=ad;have aP:w.heap.size<ws:=ad;have aR:w.heap.size+1<ws:=ad;have aN:=ae l4;clear l4;go_upto_region 6 with(fail);refine uU (λb=>¬b<ws) [13] (.free 0 (.held 1 (.free 2 (.free 3 (.held 4 (.free 5 (.held 6 (.free 7 (.free 8 (.held 9 (.pick [10,11] (λi=>bif i == 10 then .pick [11] (λ_=>.pick [12] (λ_=>.pick [13] (λ_=>.stop))) else .pick [10] (λ_=>.pick [12] (λ_=>.pick [13] (λ_=>.stop))))))))))))))) ?_;refine tf ?_;refine pO ?_
 iterate 2 refine tf ?_
 refine pO ?_;refine tf ?_;refine pO ?_
 iterate 2 refine tf ?_
 refine pO ?_;refine pk (P:=?P1) (ops:=?o1) (Q:=?q1) (R:=?r1) (tails:=?t1) (rest:=.pick [12] (λ_=>.pick [13] (λ_=>.stop))) (aa:=?aa) (C:=λ(o gc:Nat) V=>Ext wr V/\au V o 59 #[.int .i64 0,.int .i64 0,.slice none 0 0,.slice none 0 0]/\au V gc 59 #[.int .i64 0,.int .i64 0,.slice none 0 0,.slice none 0 0]/\o≠gc/\wr.heap.size<=o/\wr.heap.size<=gc) (λkey=>?main) ?key
 case main=>
  refine b1 ?_ ?_
  ·
   refine gX ?_;refine aB ?_;refine gX ?_;generalize hV:World.drew (World.alloc _ _)=V;have hC:Ext wr V/\au V wr.heap.size 59 #[.int .i64 0,.int .i64 0,.slice none 0 0,.slice none 0 0]/\au V (wr.heap.size+1) 59 #[.int .i64 0,.int .i64 0,.slice none 0 0,.slice none 0 0]/\wr.heap.size≠wr.heap.size+1/\wr.heap.size<=wr.heap.size/\wr.heap.size<=wr.heap.size+1:=by
    exact x9
   clear hV;obtain⟨cp,bE,cB,aI,c7,cM⟩:=hC;generalize bb:wr.heap.size+1=g2 at cB aI cM ⊢;generalize N:wr.heap.size=bX at bE aI ⊢;exact key bX g2 V ⟨cp,bE,cB,aI,ad,ad⟩
  ·
   refine gX ?_;refine aB ?_;refine gX ?_;generalize hV:World.drew (World.alloc _ _)=V;have hC:Ext wr V/\au V wr.heap.size 59 #[.int .i64 0,.int .i64 0,.slice none 0 0,.slice none 0 0]/\au V (wr.heap.size+1) 59 #[.int .i64 0,.int .i64 0,.slice none 0 0,.slice none 0 0]/\wr.heap.size+1≠wr.heap.size/\wr.heap.size<=wr.heap.size/\wr.heap.size<=wr.heap.size+1:=by
    exact x9
   clear hV;obtain⟨cp,bE,cB,aI,c7,cM⟩:=hC;generalize bb:wr.heap.size+1=g2 at cB aI cM ⊢;generalize N:wr.heap.size=bX at bE aI ⊢;exact key g2 bX V ⟨cp,cB,bE,aI,ad,ad⟩
 intro o gc V ⟨a9,ax,an,aH,aF,aS⟩;obtain⟨e0,bl,bm⟩:=ax.two;obtain⟨f0,cQ,cV⟩:=an.two;have H:=dq a9 ax an aH aF aS;clear a9 ax an a0 al af b0 am aw c0 c1 c2 c3 d0 d1 d2 d3;refine aB ?_;refine bD rfl (λK hK=>?_) rfl;go_simp;refine gu hK (((Kf.setCell (.inl (show ¬o<ws from by have:=aN.o;omega)) _).setCell (.inl (show ¬o<ws from by have:=aN.o;omega)) _).setCell (.inl (show ¬o<ws from by have:=aN.o;omega)) _ |>.setCell (.inl (show ¬o<ws from by have:=aN.o;omega)) _) ?_;clear hK K;refine GP (λX=>Fr (λb=>¬b<wr.heap.size) wr X/\au X o 59 #[.int .i64 f.proc,.int .i64 f.pc,.slice IA x ic,.slice bo y lc]/\au X gc 59 #[.int .i64 0,.int .i64 0,.slice none 0 0,.slice none 0 0]) ?_ (λX hX=>?_)
 .have ac:=ej 0 [.int .i64 f.proc,.int .i64 f.pc,.slice IA x ic,.slice bo y lc] H.2.1 rfl;refine⟨Fr.trans (H.1.mono λ_ h=>h.elim) (ac.2.mono λb O=>by have:=H.2.2.2.2.1;omega),ac.1,H.2.2.1.on ac.2 (Ne.symm aH)⟩
 have aJ:=ae hX;clear e0 bl bm f0 cQ cV;obtain⟨f0,cQ,cV⟩:=hX.2.2.two;clear hX;exact gN
 ):p:=h
theorem nR(h:p:=by
 have ab:=dT ar bp bH (bF.1.on (Fr.ext ar)) (bF.2.on (Fr.ext ar));obtain⟨a0,al,af⟩:=bp.two;obtain⟨b0,am,aw⟩:=bH.two;clear ba ar bp bH bF;by_cases G:n=m
 case neg=>
  have q1:((n:Int) != (m:Int))=true:=by simp;omega
  have az:=ae G;clear G;go_wp2_with(fail);go_ret;exact⟨false,rfl,⟨λh=>(by cases h),λh=>absurd (by rw[<-bN.1,<-bN.2.1,h]) az.o⟩,ab.1⟩
 subst G;have q1:((n:Int) != (n:Int))=false:=by simp
 clear a0 al af b0 am aw;obtain⟨a0,al,af⟩:=ab.2.1.two;obtain⟨b0,am,aw⟩:=ab.2.2.1.two;go_wp2_with(fail);clear a0 al af b0 am aw;go_loopw [5] (λcr wr=>∃i:Nat,cr=.int .i64 i/\i<=n/\Ext W wr/\∀j,j<i->l[j]?=k[j]?) (λcr _=>n - (intOf cr).toNat)
 case atStart=>exact⟨0,rfl,ad,Kf,λj be=>ad⟩
 case round=>
  obtain⟨i,rfl,I,ar,aZ⟩:=hrel;have bd:=ak ar aZ;obtain⟨a0,al,af⟩:=(ab.2.1.aj ar).two;obtain⟨b0,am,aw⟩:=(ab.2.2.1.aj ar).two;by_cases aq:i<n
  .obtain⟨bT,cT,f,IA,x,ic,bo,y,lc,rfl,cy,J,c0,c1,c2,c3,bJ,aS,Z,b3⟩:=(ab.2.2.2.1.on (Fr.ext ar)).oq aq;obtain⟨a1,go,g,dg,z,dh,KA,v,kc,rfl,bz,L,d0,d1,d2,d3,bj,aA,ah,bC⟩:=(ab.2.2.2.2.on (Fr.ext ar)).oq aq;exact Ab
  .obtain rfl:i=n:=ad;clear ar aZ;go_wp2_with(fail);go_ret;refine⟨true,rfl,⟨λ_=>?_,λ_=>rfl⟩,ab.1.trans bd.1⟩;apply List.ext_getElem?
   intro j;exact Av
 ):p:=h
theorem tE(h:p:=by
 go_enter func32,ntmps32;exact nQ
 ):p:=h
end BP
open BP in
theorem sT(A B:Kj)(n c m aW:Nat)(l k:List ai)(w:World)(hl:Sl w (ao w) A n (l.map dP))(aj:Sl w (ao w) B m (k.map dP))(hn:n<=1000000)(T:∀f∈l,f.ints.length<=100000/\f.aq.length<=100000) :
  Calls prog 32 #[.agg #[.slice A n c],.agg #[.slice B m aW]] w (hy w (l=k)):=by
 exact tD
theorem DJ{t:ah}:s=t↔s.fault=t.fault/\s.globals=t.globals/\s.table=t.table/\s.threads=t.threads:=by
 cases s;cases t
 simp only[ah.mk.injEq];constructor
 .rintro⟨ac,ap,aD,bt⟩;exact⟨bt,ac,ap,aD⟩
 .rintro⟨ac,ap,aD,bt⟩;exact⟨ap,aD,bt,ac⟩
namespace BQ
theorem nR(h:p:=by
 have ab:=dT ar bp bH (bF.1.on ar) (bF.2.1.on ar);obtain⟨a0,al,af⟩:=bp.two;obtain⟨b0,am,aw⟩:=bH.two;clear ba ar bp bH;by_cases ac:s.fault=aB.fault
 case neg=>
  have q5:(s.fault != aB.fault)=true:=by simpa using ac
  have cL:=ae ac;clear ac;go_wp2_with(fail);go_ret;exact⟨false,rfl,⟨λh=>(by cases h),λh=>absurd (by rw[h]) cL.o⟩,ab.1⟩
 have q5:(s.fault != aB.fault)=false:=by simpa using ac
 have H1:=ae ac;clear ac;go_wp2_with(fail);refine(jv GA b7 gn gc l k s.globals aB.globals W ab.2.2.2.1.at_.g ab.2.2.2.2.at_.g ad).mono ?_;rintro r aV ⟨rfl,bv⟩;have aT:=ae (show Ext W aV from Fr.of bv);clear bv a0 al af b0 am aw;obtain⟨a0,al,af⟩:=(ab.2.1.aj aT.o).two;obtain⟨b0,am,aw⟩:=(ab.2.2.1.aj aT.o).two
 cases ap:decide (s.globals=aB.globals) with
 | false=>
  have cL:=ae (of_decide_eq_false ap);clear ap;go_wp2_with(fail);go_ret
  exact⟨false,rfl,⟨λh=>(by cases h),λh=>absurd (by rw[h]) cL.o⟩,ab.1.trans aT.o⟩
 | true=>
 have bO:=ae (of_decide_eq_true ap);clear ap;go_wp2_with(fail);refine(Dw TA bW tn tc bc a8 s.table aB.table aV (ab.2.2.2.1.on aT.o).at_.t.holds (ab.2.2.2.2.on aT.o).at_.t.holds ad).mono ?_;rintro r bV ⟨rfl,aE⟩;have a4:=ae (show Ext W bV from aT.trans (Fr.of aE));clear aE a0 al af b0 am aw aT;obtain⟨a0,al,af⟩:=(ab.2.1.aj a4.o).two;obtain⟨b0,am,aw⟩:=(ab.2.2.1.aj a4.o).two
 cases aD:decide (s.table=aB.table) with
 | false=>
  have cL:=ae (of_decide_eq_false aD);clear aD;go_wp2_with(fail);go_ret
  exact⟨false,rfl,⟨λh=>(by cases h),λh=>absurd (by rw[h]) cL.o⟩,ab.1.trans a4.o⟩
 | true=>
 have cb:=ae (of_decide_eq_true aD);clear aD;by_cases G:hn=hm
 case neg=>
  have dl:((hn:Int) != (hm:Int))=true:=by simp;omega
  have cL:=ae G;clear G;go_wp2_with(fail);go_ret;exact⟨false,rfl,⟨λh=>(by cases h),λh=>absurd (by rw[<-bF.2.2.2.1,<-bF.2.2.2.2,h]) cL.o⟩,ab.1.trans a4.o⟩
 subst G;have dl:((hn:Int) != (hn:Int))=false:=by simp
 have dr:hn<=1000:=by have:=bF.2.2.1.h;have:=bF.2.2.2.1;omega
 go_wp2_with(fail);clear a0 al af b0 am aw;go_loopw [5] (λcr wr=>∃i:Nat,cr=.int .i64 i/\i<=hn/\Ext W wr/\∀j,j<i->s.threads[j]?=aB.threads[j]?) (λcr _=>hn - (intOf cr).toNat)
 case atStart=>exact⟨0,rfl,ad,a4.o,λj be=>ad⟩
 case round=>
  obtain⟨i,rfl,I,ar,aZ⟩:=hrel;clear a4;have bd:=ak ar aZ;obtain⟨a0,al,af⟩:=(ab.2.1.aj ar).two;obtain⟨b0,am,aw⟩:=(ab.2.2.1.aj ar).two;by_cases aq:i<hn
  .obtain⟨bT,cT,g,FA,x,ic,rfl,cy,J,c0,bJ,n⟩:=(ab.2.2.2.1.on ar).at_.h.kN aq;obtain⟨a1,go,gt,dg,z,dh,rfl,bz,L,d0,bj,f⟩:=(ab.2.2.2.2.on ar).at_.h.kN aq;have cj:bT<wr.heap.size:=cy;have u:a1<wr.heap.size:=bz;have T:=bF.2.2.1.f g (JL J);have aK:x=g.length:=by have:=n.1;simpa using this.symm
   have aM:x<=1000000:=ad;have b6:=dT J L n f T.2;clear ar aZ cy bz J L n f bJ bj T aK;go_upto_region 6 with(fail);refine fj (λ_=>False) [(0,3),(1,0),(2,3),(3,3),(4,0),(5,3),(6,0),(7,3),(8,3),(9,0),(10,2),(11,3)] ?_;refine pf ?_;refine ph ?_
   iterate 2 refine pf ?_
   refine ph ?_;refine pf ?_;refine ph ?_
   iterate 2 refine pf ?_
   refine ph ?_;refine az rfl (λK hK=>?_);go_simp;have bZ:Ext wr wr.drew:=Kf.drew;refine(sT FA dg x ic z dh g gt wr.drew (b6.2.2.1.on (Fr.ext bZ)) (b6.2.2.2.1.on (Fr.ext bZ)) aM b6.2.2.2.2).mono ?_;rintro r cE ⟨b,rfl,O,aA⟩;have b4:=ae (Fr.aL aA);have bL:=ae O;clear O aA bZ a0 al af b0 am aw c0 d0;refine eC hK ?_;clear hK K;refine pf ?_;refine aG ?_;have ch:s=aB->g=gt:=λh=>by have ac:=b6.1;have ap:=b6.2.1;rw[h,ap] at ac;injection ac with ac;exact ac.symm
   have S:=ae ch;clear ch
   cases b with
   | false=>
    go_wp2_with(fail);go_ret
    exact⟨false,rfl,⟨λh=>(by cases h),λh=>absurd (bL.2 (S.o h)) (by simp)⟩,(ab.1.trans bd.1).trans b4.o⟩
   | true=>
    go_wp2_with(fail);go_roundw
    case rel=>
     refine⟨i+1,by go_num,ad,bd.1.trans b4.o,λj be=>?_⟩;by_cases ag:j=i
     .rw[ag,b6.1,b6.2.1,bL.1 rfl]
     .exact bd.2 j ad
    case measure=>exact aU
  .obtain rfl:i=hn:=ad;clear ar aZ;go_wp2_with(fail);go_ret;refine⟨true,rfl,⟨λ_=>DJ.2 ⟨H1.o,bO.o,cb.o,?_⟩,λ_=>rfl⟩,ab.1.trans bd.1⟩;apply List.ext_getElem?
   intro j;by_cases be:j<i
   .exact bd.2 j be
   .rw[List.getElem?_eq_none (aC bF.2.2.2.1),List.getElem?_eq_none (aC bF.2.2.2.2)]
 ):p:=h
end BQ
open BQ in
theorem HM(s aB:ah)(q ao:SV)(w:World)(h:q.Ok w s)(F:ao.Ok w aB)(T:Small s) :
  Calls prog 10 #[.agg (q.val s),.agg (ao.val aB)] w (hy w (s=aB)):=by
 obtain⟨GA,gn,gc,TA,tn,tc,HA,hn,hc⟩:=q;obtain⟨b7,l,k,bW,bc,a8,bL,hm,hd⟩:=ao;have rU:gn<=1000:=by have ac:=h.at_.g.1;have ap:=T.g;rw[JM] at ac;have aD:s.globals.length=gn:=ac;omega
 have rV:tn<=5000:=by have ac:=h.at_.t.1;have ap:=T.t;rw[JM] at ac;have aD:s.table.length=tn:=ac;omega
 have bG:s.threads.length=hn:=by have ac:=h.at_.h.1;rw[JM] at ac;exact ac
 have bS:aB.threads.length=hm:=by have ac:=F.at_.h.1;rw[JM] at ac;exact ac
 have bF:=dT h F T bG bS;clear h F T bG bS;dsimp only[SV.val];go_enter func10,ntmps10;exact nQ
end Go.Proofs.YtnigabjngpnbiaaGreat

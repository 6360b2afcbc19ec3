/- Part 30 of the proof. No condition of its own. -/
import Derived.Test.YtnigabjngpnbiabGreatF29
namespace Go.Proofs.YtnigabjngpnbiabGreat
open Go.RowKit Go.Proofs.Tryz
set_option maxRecDepth 1000000
set_option maxHeartbeats 25600000
set_option linter.unusedVariables false
variable{b:Bool}{y:Nat->Prop}{p:Prop}{Z:World}{R:ao}
section
variable {P:Nat->Prop} {B:Nat} {w ab X:World} {s aq:ai} {k:Nat} {fs:List ao} {f b0:ao} {N:Nat} {q:SV} {O lb lc:Nat} {hx b2:List Value} {IA:NH} {ic:Nat} {bC:NH} {aH:Nat} {F1 F2 a8:List Nat}
theorem RO.sep(h:RO P B w s k fs f N q O lb lc hx b2 IA ic bC aH F1 F2 a8):N≠O/\N≠lb/\O≠lb/\(∀b∈F1++(F2++a8),b≠N/\b≠O/\b≠lb)/\∀b,P b->b<w.heap.size/\b≠N/\b≠O/\b≠lb:=by
 have n1:=List.nodup_cons.1 h.nd;have n2:=List.nodup_cons.1 n1.2;have n3:=List.nodup_cons.1 n2.2;refine⟨λhe=>n1.1 (by rw[he];simp),λhe=>n1.1 (by rw[he];simp),λhe=>n2.1 (by rw[he];simp),λb hm=>⟨λhe=>n1.1 (he▸?_),λhe=>n2.1 (he▸?_),λhe=>n3.1 (he▸hm)⟩,λb hm=>?_⟩
 .exact List.mem_cons_of_mem _ (List.mem_cons_of_mem _ hm)
 .exact List.mem_cons_of_mem _ hm
 .have ac:=h.pb b hm;have az:=h.lo N (by simp);have aV:=h.lo O (by simp);have aU:=h.lo lb (by simp);omega
theorem RO.fin(h:RO P B w s k fs f N q O lb lc hx b2 IA ic bC aH F1 F2 a8)(U:w.heap.size<=X.heap.size)(aj:∀b,b<w.heap.size->b≠O->b≠lb->X.heap[b]?=w.heap[b]?){T:List ao}{v:Value}
  (rQ:Own X 95 1 q.HA q.hn q.hc (hx.set k v) [O]) (bK:(mY T).rep X (λb=>P b\/(B<=b/\b<X.heap.size)) [v]) :
  q.Is X (λb=>P b\/(B<=b/\b<X.heap.size)) {s with threads:=s.threads.set k T}/\an X N 30 (q.val s):=by
 obtain⟨d1,d2,d3,o,g⟩:=h.sep;have bp:=h.lo;have aB:∀b∈N::O::lb::(F1++(F2++a8)),P b\/(B<=b/\b<X.heap.size):=λb O=>.inr ⟨(bp b O).1,by have:=(bp b O).2;omega⟩;have i:∀b∈F1++(F2++a8),X.heap[b]?=w.heap[b]?:=λb O=>aj b (bp b (List.mem_cons_of_mem _ (List.mem_cons_of_mem _ (List.mem_cons_of_mem _ O)))).2 (o b O).2.1 (o b O).2.2;have n:∀b,P b->X.heap[b]?=w.heap[b]?:=λb O=>aj b (g b O).1 (g b O).2.2.1 (g b O).2.2.2;have a:∀b,P b->P b\/(B<=b/\b<X.heap.size):=λb O=>.inl O;have aZ:hx.length=s.threads.length:=by have:=h.h.row.1;rw[Nat.mul_one] at this;rw[this];exact h.hl
 have ap:=(List.getElem?_eq_some_iff.1 h.th).1;refine⟨⟨⟨?_,?_,?_⟩,h.g.cap,h.t.cap,h.h.cap⟩,(aj N (bp N (by simp)).2 d1 d2).trans h.o⟩
 .exact(h.g.ak λb O=>i b (by simp[O])).sl (cO _) (by rw[M5];exact h.gl.symm) λb O=>aB b (by simp[O])
 .exact(h.t.ak λb O=>i b (by simp[O])).sl (dW _) (by rw[M5];exact h.tl.symm) λb O=>aB b (by simp[O])
 .refine rQ.sl (nn _ _ (by simpa using aZ) λj x bi=>?_) (by simp only[M5,List.length_set];exact h.hl.symm) λb O=>aB b (by simp[Nv.1 O]);by_cases aw:j=k
  .subst aw;rw[List.getElem?_set_self ap] at bi;injection bi with bi;subst bi;exact⟨v,List.getElem?_set_self ad,bK⟩
  .rw[List.getElem?_set_ne (Ne.symm aw)] at bi;obtain⟨u,hu,ba⟩:=h.rH j x aw bi;exact⟨u,by rw[List.getElem?_set_ne (Ne.symm aw)];exact hu,D.aM a _ _ (D.aO n _ _ ba)⟩
theorem RO.rQ(h:RO P B w s k fs f N q O lb lc hx b2 IA ic bC aH F1 F2 a8)(v:Value):Own (w.setCell ⟨O,k,none⟩ v) 95 1 q.HA q.hn q.hc (hx.set k v) [O]:=by
 have ap:=(List.getElem?_eq_some_iff.1 h.th).1;have ce:k<q.hn:=by rw[h.hl];exact ap
 obtain⟨g2,a7,-,-,-,-,hs⟩:=h.h.block ad;obtain rfl:O=g2:=by have:=h.m3.symm.trans a7;simpa using this
 exact hs k v ad
namespace D0
theorem wO(h:p:=by
 have hc:=h.l.cap;have hl:=(h.l.shorter (m:=fs.length) ad ad).ak (ab:=X) λb O=>aE b (by rw[Nv.1 O];exact Ne.symm d3);rw[List.take_append_of_le_length ad,Nb ad] at hl;refine h.fin ad (λb _ ac _=>aE b ac) (by rw[<-hX];exact h.rQ _) (fF.2 ⟨_,fs.length,lc,rfl,ad,hl.sl (D.b0 (λb O=>.inl O) _ _ (D.bZ (λb O=>aE b (g b O).2.2.1) _ _ h.fr)) (by simp) λb aZ=>.inr ?_⟩);rw[Nv.1 aZ,cM];exact h.lo lb (by simp)
 ):p:=h
end D0
open D0 in
theorem RO.drop(h:RO P B w s k fs f N q O lb lc hx b2 IA ic bC aH F1 F2 a8)(hX:w.setCell ⟨O,k,none⟩ (.slice (some ⟨lb,0,none⟩) fs.length lc)=X) :
  q.Is X (λb=>P b\/(B<=b/\b<X.heap.size)) {s with threads:=s.threads.set k fs}/\an X N 30 (q.val s):=by
 obtain⟨d1,d2,d3,o,g⟩:=h.sep;have cM:X=w.heap.size:=by rw[<-hX];simp[World.setCell]
 have aE:∀b,b≠O->X.heap[b]?=w.heap[b]?:=λb O=>by rw[<-hX];exact aS O
 exact wN
theorem RO.push(h:RO P B w s k fs f N q O lb lc hx b2 IA ic bC aH F1 F2 a8){cs:List Value}(bE:(gP R).rep w y cs)(c:∀b,y b->B<=b/\b<w.heap.size/\b≠O/\b≠lb)
  {I:NH} {aD:Nat} {aW:World} (ba:Own aW 77 4 I (fs.length+2) aD (b2++[.int .i64 f.proc,.int .i64 f.pc,.slice IA f.ints.length ic,.slice bC f.az.length aH]++cs) (bA I (fs.length+2) aD))
  (b1:Fr (λb=>b=lb) w aW) (r:∀b∈bA I (fs.length+2) aD,b=lb\/(w.heap.size<=b/\b<aW.heap.size)) (hX:aW.setCell ⟨O,k,none⟩ (.slice I (fs.length+2) aD)=X) :
  q.Is X (λb=>P b\/(B<=b/\b<X.heap.size)) {s with threads:=s.threads.set k (fs++[f]++[R])}/\an X N 30 (q.val s):=by
 obtain⟨d1,d2,d3,o,g⟩:=h.sep;have bO:=b1.size;have cM:X=aW.heap.size:=by rw[<-hX];simp[World.setCell]
 have aE:∀b,b<w.heap.size->b≠O->b≠lb->X.heap[b]?=w.heap[b]?:=λb hl ac az=>by rw[<-hX];exact(aS ac).trans (b1.block b hl az)
 have T:=(h.lo O (by simp)).2;have d:∀b∈bA I (fs.length+2) aD,b≠O:=λb aZ=>by
  rcases r b aZ with ac|ac
  .rw[ac];exact Ne.symm d3
  .omega
 have e:=ba.ak (ab:=X) λb aZ=>by rw[<-hX];exact aS (d b aZ)
 have n:∀b,P b->X.heap[b]?=w.heap[b]?:=λb O=>aE b (g b O).1 (g b O).2.2.1 (g b O).2.2.2;have a:∀b,P b->P b\/(B<=b/\b<X.heap.size):=λb O=>.inl O;have aB:∀b∈N::O::lb::(F1++(F2++a8)),P b\/(B<=b/\b<X.heap.size):=λb O=>.inr ⟨(h.lo b O).1,by have:=(h.lo b O).2;omega⟩;have aN:=h.i.ak (ab:=X) λb O=>aE b (h.lo b (by simp[O])).2 (o b (by simp[O])).2.1 (o b (by simp[O])).2.2;have rQ:Own X 95 1 q.HA q.hn q.hc (hx.set k (.slice I (fs.length+2) aD)) [O]:=by
  have ac:Own aW 95 1 q.HA q.hn q.hc hx [O]:=h.h.ak λb aZ=>b1.block b (by rw[Nv.1 aZ];exact T) (by rw[Nv.1 aZ];exact d3);have ap:=(List.getElem?_eq_some_iff.1 h.th).1;have ce:k<q.hn:=by rw[h.hl];exact ap
  obtain⟨g2,a7,-,-,-,-,hs⟩:=ac.block ad;obtain rfl:O=g2:=by have:=h.m3.symm.trans a7;simpa using this
  rw[<-hX];exact hs k _ ad
 refine h.fin ad aE rQ (fF.2 ⟨_,_,_,rfl,e.cap,e.sl ?_ (by simp) λb aZ=>?_⟩)
 .rw[Na,Na];refine D.cS (D.cS (D.b0 a _ _ (D.bZ n _ _ h.fr)) (D.bx.2 (gz.2 ⟨_,_,_,_,_,_,rfl,h.i.cap,h.IG,aN.sl (cO _) (by simp) λb O=>aB b (by simp[O]),(h.lk.ak n).mono a⟩))) (D.bx.2 ?_);exact D.aM (λb O=>.inr (⟨(c b O).1,by have:=(c b O).2.1;omega⟩:B<=b/\b<X.heap.size)) _ _ (D.aO (λb O=>aE b (c b O).2.1 (c b O).2.2.1 (c b O).2.2.2) _ _ bE)
 .rcases r b aZ with ac|ac
  .rw[ac];exact aB lb (by simp)
  .have:=(h.lo O (by simp));exact .inr ⟨ad,ad⟩
end
section
variable {P:Nat->Prop} {B:Nat} {w ab X:World} {s aq:ai} {k:Nat} {fs:List ao} {f b0:ao} {N:Nat} {q:SV} {O lb lc:Nat} {hx b2:List Value} {IA:NH} {ic:Nat} {bC:NH} {aH:Nat} {F1 F2 a8:List Nat}
theorem RO.J7(h:RO P B w s k fs f N q O lb lc hx b2 IA ic bC aH F1 F2 a8){PT:Nat->Prop}{I:NH}{a6 aD:Nat}{T:List di}(hT:Sl w PT I a6 (T.map mq))(hn:a6<=aD)(a:∀b,PT b->P b\/(B<=b/\b<w.heap.size/\b≠N))(hX:w.setCell ⟨N,1,none⟩ (.slice I a6 aD)=X):
  let z:SV:=⟨q.GA,q.gn,q.gc,I,a6,aD,q.HA,q.hn,q.hc⟩
  let aq:ai:={s with table:=T}
  z.Is X (λb=>P b\/(B<=b/\b<X.heap.size)) aq/\an X N 30 (z.val aq):=by
 intro z aq;have cM:X=w.heap.size:=by rw[<-hX];simp[World.setCell]
 have aj:∀b,(P b\/(B<=b/\b<w.heap.size/\b≠N))->X.heap[b]?=w.heap[b]?:=λb hm=>by
  rw[<-hX];refine aS ?_;rcases hm with hm|hm
  .exact(h.sep.2.2.2.2 b hm).2.1
  .exact hm.2.2
 have aN:=h.LX.ak aj;have hm:∀b,(P b\/(B<=b/\b<w.heap.size/\b≠N))->P b\/(B<=b/\b<X.heap.size):=λb O=>O.imp id λO=>⟨O.1,by rw[cM];exact O.2.1⟩
 refine⟨⟨⟨aN.at_.g.mono hm,(hT.ak λb O=>aj b (a b O)).mono λb O=>hm b (a b O),aN.at_.h.mono hm⟩,aN.gc,hn,aN.hc⟩,?_⟩;rw[<-hX];exact h.o.aK 1 _
theorem RO.start(h:RO P B w s k fs f N q O lb lc hx b2 IA ic bC aH F1 F2 a8){c0 c1 c2 c3:Value}(bE:(gP R).rep w y [c0,c1,c2,c3])(c:∀b,y b->B<=b/\b<w.heap.size/\b≠O/\b≠N)
  {aO aW:World} (ag:w.alloc (.cells #[c0,c1,c2,c3] 77)=aO) {I:NH} {aD:Nat}
  (ba:Own aW 95 1 I (q.hn+1) aD (hx++[.slice (some ⟨w,0,none⟩) 1 1]) (bA I (q.hn+1) aD)) (J:Fr (λb=>b=O) aO aW) (r:∀b∈bA I (q.hn+1) aD,b=O\/(aO.heap.size<=b/\b<aW.heap.size))
  (hX:aW.setCell ⟨N,2,none⟩ (.slice I (q.hn+1) aD)=X) :
  let z:SV:=⟨q.GA,q.gn,q.gc,q.TA,q.tn,q.tc,I,q.hn+1,aD⟩
  let aq:ai:={s with threads:=s.threads++[[R]]}
  z.Is X (λb=>P b\/(B<=b/\b<X.heap.size)) aq/\an X N 30 (z.val aq):=by
 intro z aq;obtain⟨d1,d2,d3,o,g⟩:=h.sep;have dD:aO=w.heap.size+1:=by rw[<-ag];simp
 have aM:=aX ag;have v:=aL ag;have bO:=J.size;have cM:X=aW.heap.size:=by rw[<-hX];simp[World.setCell]
 have cR:=h.lo N (by simp);have dr:=h.lo O (by simp);have bu:=h.lo lb (by simp);have aE:∀b,b<aO.heap.size->b≠N->b≠O->X.heap[b]?=aO.heap[b]?:=λb ap bl aV=>by
  rw[<-hX];exact(aS bl).trans (J.block b ap aV)
 have m:∀b,b<w.heap.size->b≠N->b≠O->X.heap[b]?=w.heap[b]?:=λb ap bl aV=>(aE b ad bl aV).trans (aM.block b ap λh=>h);have n:∀b,P b->X.heap[b]?=w.heap[b]?:=λb hm=>m b (g b hm).1 (g b hm).2.1 (g b hm).2.2.1;have i:∀b∈F1++(F2++a8),X.heap[b]?=w.heap[b]?:=λb hm=>m b (h.lo b (List.mem_cons_of_mem _ (List.mem_cons_of_mem _ (List.mem_cons_of_mem _ hm)))).2 (o b hm).1 (o b hm).2.1;have a:∀b,P b->P b\/(B<=b/\b<X.heap.size):=λb hm=>.inl hm;have aB:∀b∈N::O::lb::(F1++(F2++a8)),P b\/(B<=b/\b<X.heap.size):=λb hm=>.inr ⟨(h.lo b hm).1,by have:=(h.lo b hm).2;omega⟩;have bn:an X w 77 #[c0,c1,c2,c3]:=(aE _ ad ad ad).trans v;have cr:(gP R).rep X (λb=>P b\/(B<=b/\b<X.heap.size)) [c0,c1,c2,c3]:=D.aM (λb hm=>.inr (⟨(c b hm).1,by have:=(c b hm).2.1;omega⟩:B<=b/\b<X.heap.size)) _ _ (D.aO (λb hm=>m b (c b hm).2.1 (c b hm).2.2.2 (c b hm).2.2.1) _ _ bE);have bS:Sl X (λb=>P b\/(B<=b/\b<X.heap.size)) (some ⟨w,0,none⟩) 1 ([R].map gP):=⟨rfl,λ_=>⟨w,0,[c0,c1,c2,c3],rfl,.inr ⟨ad,ad⟩,by simp only[M7,Nr];exact D.bx.2 cr,λj u hu=>by
  rw[Nm,bn.cell];simpa using hu⟩⟩
 have d:∀b∈bA I (q.hn+1) aD,b≠N:=λb hm=>by
  rcases r b hm with ac|ac
  .rw[ac];exact Ne.symm d1
  .omega
 have e:=ba.ak (ab:=X) λb hm=>by rw[<-hX];exact aS (d b hm)
 have hl:=h.l.ak (ab:=X) λb hm=>by rw[Nv.1 hm];exact m lb bu.2 (Ne.symm d2) (Ne.symm d3)
 have aN:=h.i.ak (ab:=X) λb hm=>i b (by simp[hm]);have aZ:hx.length=s.threads.length:=by have:=h.h.row.1;rw[Nat.mul_one] at this;rw[this];exact h.hl
 refine⟨⟨⟨?_,?_,?_⟩,h.g.cap,h.t.cap,e.cap⟩,?_⟩
 .exact(h.g.ak λb hm=>i b (by simp[hm])).sl (cO _) (by rw[M5];exact h.gl.symm) λb hm=>aB b (by simp[hm])
 .exact(h.t.ak λb hm=>i b (by simp[hm])).sl (dW _) (by rw[M5];exact h.tl.symm) λb hm=>aB b (by simp[hm])
 .refine e.sl (l:=(s.threads++[[R]]).map mY) ?_ (by simp[h.hl]) λb hm=>?_
  .rw[Na];refine D.cS (nn _ _ aZ λj x bi=>?_) (D.bx.2 (fF.2 ⟨_,1,1,rfl,MU _,bS⟩));by_cases aw:j=k
   .subst aw;have:=h.th.symm.trans bi;injection this with this;subst this;refine⟨_,h.Ao,fF.2 ⟨_,_,_,rfl,h.l.cap,hl.sl ?_ (by simp) λb hm=>aB b (by simp[Nv.1 hm])⟩⟩;rw[Na];exact D.cS (D.b0 a _ _ (D.bZ n _ _ h.fr)) (D.bx.2 (gz.2 ⟨_,_,_,_,_,_,rfl,h.i.cap,h.IG,aN.sl (cO _) (by simp) λb hm=>aB b (by simp[hm]),(h.lk.ak n).mono a⟩))
   .obtain⟨u,hu,ba⟩:=h.rH j x aw bi;exact⟨u,hu,D.aM a _ _ (D.aO n _ _ ba)⟩
  .rcases r b hm with ac|ac
   .rw[ac];exact aB O (by simp)
   .exact .inr ⟨ad,ad⟩
 .have:=(h.o.aj aM).on J d1;rw[<-hX];exact this.aK 2 _
end
theorem fw{P:Nat->Prop}{w Y:World}{B:Nat}{s aq:ai}{q:SV}{M:Nat->Prop}(h:q.Is Y (λk=>P k\/(B<=k/\k<Y.heap.size)) s)(J:Fr M Y Z)(hM:∀k,M k->¬P k/\k<B)(bh:∀k,P k->k<Y.heap.size)(aT:w.heap.size<=B)(aF:Ext w Z)(hs:s=aq):dd P w aq b (.returned (.tuple #[.agg (q.val aq),b])) Z:=by
 subst hs;exact⟨q,rfl,(h.ak λk aj=>J.block k (aj.elim (bh k) λh=>h.2) λhm=>aj.elim (hM k hm).1 λh=>by have:=(hM k hm).2;omega).mono λk aj=>aj.imp id λaj=>⟨ad,by have:=J.size;omega⟩,aF⟩
theorem SV.Is.IF{P:Nat->Prop}{w V:World}{s:ai}{q:SV}(h:q.Is w P s)(bh:∀b,P b->b<w.heap.size)(aF:Ext w V):q.Is V P s:=h.ak λb O=>aF.block b (bh b O) λh=>h
theorem xR{P:Nat->Prop}{w:World}{s:ai}{q:SV}(h:q.Is w P s)(bh:∀b,P b->b<w.heap.size)(aF:Ext w Z):dd P w s b (.returned (.tuple #[.agg (q.val s),.bool b])) Z:=
 ⟨q,rfl,(h.IF bh aF).mono λ_ O=>.inl O,aF⟩
theorem RO.KE{P:Nat->Prop}{B:Nat}{w:World}{s:ai}{k:Nat}{fs:List ao}{f:ao}{N:Nat}{q:SV}{O lb lc:Nat}{hx b2:List Value}{IA:NH}{ic:Nat}{bC:NH}{aH:Nat}{F1 F2 a8:List Nat}(h:RO P B w s k fs f N q O lb lc hx b2 IA ic bC aH F1 F2 a8):Sl w (av w) IA f.ints.length (f.ints.map .i):=
 h.i.sl (cO _) (by simp) λb O=>(h.lo b (by simp[O])).2
namespace D1
theorem Cp(h:p:=by
 exact AZ
 ):p:=h
theorem fP(h:p:=by
 have cc:=ay hu (bn.ok bh) bn;obtain⟨H,aa⟩:=aJ bh ht;clear hu bn bh ht;dsimp only[UV.val,SV.val];go_enter func51,ntmps51;go_upto_region 1 with(fail);generalize be:World.alloc _ _=W;have aF:=l9 be;have b0:=kB be;have bX:=iL be;have cx:=kC be;have al:=dH aF b0 bX cx (cc.1.on aF) (cc.2.1.on aF);have cZ:=aF.size;have dA:=cx.lt;obtain⟨a0,ak,af⟩:=b0.two;obtain⟨bs,am,aK⟩:=bX.two;clear be aF b0 bX cx;go_wp2_with(fail);refine(vI u s t W ⟨GA,gn,gc,MA,mn,mc,PA,pn,pc⟩ ⟨bI,bU,bx,TA,tn,tc,HA,hn,hc⟩ al.2.2.2.2.2 aa.o).mono ?_;rintro e aO ⟨rfl,aM⟩;have bw:=ae aM;clear a0 ak af bs am aK;go_upto_region 2 with(fail);generalize hV:World.alloc _ _=V;have aC:Ext W V:=hV▸aM.alloc _;have dm:=aC.size;have z:=al.2.2.2.1.aj aC;obtain⟨bs,am,aK⟩:=(al.2.2.1.aj aC).two;obtain⟨bq,a1,a5⟩:=z.two;have bO:=ah aC z;clear hV aC aM z;go_wp2_with(fail);generalize hX:World.setCell _ _ _=Z;obtain⟨bm,bd,a4⟩:=a9 (w:=w) [.slice bI bU bx,.slice TA tn tc,.slice HA hn hc,.int .i64 s.fault] (by rfl) bO.2 (al.1.trans bO.1) ad hX;exact Co
 ):p:=h
end D1
open D1 in
theorem xL(u:aw)(s:ai)(t:Int)(P:Nat->Prop)(w:World)(p:UV)(q:SV)(hu:p.Ok w u)(bn:q.Is w P s)(bh:∀b,P b->b<w.heap.size)(ht:dF s t=none) :
  Calls prog 51 #[.agg (p.val u),.agg (q.val s),t] w (dd P w s false):=by
 exact fO
end Go.Proofs.YtnigabjngpnbiabGreat

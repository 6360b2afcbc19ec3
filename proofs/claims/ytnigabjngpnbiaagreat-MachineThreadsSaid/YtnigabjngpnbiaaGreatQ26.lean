/- Part 26 of the proof. No condition of its own. -/
import Derived.Test.YtnigabjngpnbiaaGreatQ25
namespace Go.Proofs.YtnigabjngpnbiaaGreat
open Go.RowKit Go.Proofs.Tryz
set_option maxRecDepth 1000000
set_option maxHeartbeats 25600000
set_option linter.unusedVariables false
variable{v:Nat->Prop}{p:Prop}{R:ai}
theorem lW{α:Type}{enc:α->D}{w:World}{P:Nat->Prop}:∀(l:List α) (xs:List Value),xs.length=l.length->(∀(j:Nat) (x:α),l[j]?=some x->∃u,xs[j]?=some u/\(enc x).rep w P [u])->D.aR w P (l.map enc) xs
 | [],[],_,_=>aS.2 rfl
 | [],_::_,h,_=>by simp at h
 | _::_,[],h,_=>by simp at h
 | a::l,v::xs,h,hp=>by
  obtain⟨u,hu,aZ⟩:=hp 0 a rfl;simp only[List.getElem?_cons_zero,Ka] at hu;subst hu;exact dm.2 ⟨[v],xs,rfl,aZ,lW l xs (by simpa using h) λj x hx=>by simpa using hp (j+1) x (by simpa using hx)⟩
section
variable {P:Nat->Prop} {B:Nat} {w J:World} {s aB:ah} {k:Nat} {fs:List ai} {f U:ai} {N:Nat} {q:SV} {O lb lc:Nat} {hx co:List Value} {IA:Kj} {ic:Nat} {bo:Kj} {y:Nat} {F1 F2 bf:List Nat}
theorem RO.IS(h:RO P B w s k fs f N q O lb lc hx co IA ic bo y F1 F2 bf):q.Is w (λb=>P b\/(B<=b/\b<w.heap.size/\b≠N)) s:=by
 have bc:=h.lo;have E:∀b∈O::lb::(F1++(F2++bf)),P b\/(B<=b/\b<w.heap.size/\b≠N):=λb hm=>.inr ⟨(bc b (List.mem_cons_of_mem _ hm)).1,(bc b (List.mem_cons_of_mem _ hm)).2,λhe=>(List.nodup_cons.1 h.nd).1 (he▸hm)⟩;have a:∀b,P b->P b\/(B<=b/\b<w.heap.size/\b≠N):=λb O=>.inl O;refine⟨⟨?_,?_,?_⟩,h.g.cap,h.t.cap,h.h.cap⟩
 .exact h.g.sl (ck _) (by rw[JM];exact h.gl.symm) λb O=>E b (by simp[O])
 .exact h.t.sl (dd _) (by rw[JM];exact h.tl.symm) λb O=>E b (by simp[O])
 .have aK:hx.length=s.threads.length:=by have:=h.h.row.1;rw[Nat.mul_one] at this;rw[this];exact h.hl
  refine h.h.sl (lW _ _ aK λj x be=>?_) (by rw[JM];exact h.hl.symm) λb O=>E b (by simp[J9.1 O]);by_cases z:j=k
  .subst z;have:=h.th.symm.trans be;injection this with this;subst this;refine⟨_,h.FY,ei.2 ⟨_,_,_,rfl,h.l.cap,h.l.sl ?_ (by simp) λb O=>E b (by simp[J9.1 O])⟩⟩;rw[JP];exact D.cw (D.bZ a _ _ h.fr) (D.bt.2 (fy.2 ⟨_,_,_,_,_,_,rfl,h.i.cap,h.F0,h.i.sl (ck _) (by simp) λb O=>E b (by simp[O]),h.lk.mono a⟩))
  .obtain⟨u,hu,aZ⟩:=h.pA j x z be;exact⟨u,hu,D.aA a _ _ aZ⟩
theorem RO.is(h:RO P B w s k fs f N q O lb lc hx co IA ic bo y F1 F2 bf):q.Is w (λb=>P b\/(B<=b/\b<w.heap.size)) s:=h.IS.mono λb O=>O.imp id λO=>⟨O.1,O.2.1⟩
theorem RO.H8(h:RO P B w s k fs f N q O lb lc hx co IA ic bo y F1 F2 bf){g:Nat}(aS:g∈lb::(F1++(F2++bf)))(bH:J.heap.size=w.heap.size)(aj:∀b,b≠g->J.heap[b]?=w.heap[b]?)
  (d:∀j,j≠k->aB.threads[j]?=s.threads[j]?) (a5:aB.threads[k]?=some (fs++[U])) (bC:aB.globals.length=s.globals.length) (cn:aB.table.length=s.table.length) (bG:aB.threads.length=s.threads.length) (a:aB.fault=s.fault) (b3:U.aq=f.aq)
  (hG:Own J 3 1 q.GA q.gn q.gc (aB.globals.map cX) F1) (hT:Own J 89 2 q.TA q.tn q.tc (aB.table.flatMap bA) F2)
  (bP:Own J 59 4 (some ⟨lb,0,none⟩) (fs.length+1) lc (co++[.int .i64 U.proc,.int .i64 U.pc,.slice IA U.ints.length ic,.slice bo U.aq.length y]) [lb])
  (hI:Own J 3 1 IA U.ints.length ic (U.ints.map cX) bf):RO P B J aB k fs U N q O lb lc hx co IA ic bo y F1 F2 bf:=by
 have n1:=List.nodup_cons.1 h.nd;have n2:=List.nodup_cons.1 n1.2;have aK:N≠g:=λhe=>n1.1 (by rw[he];exact List.mem_cons_of_mem _ aS);have c:O≠g:=λhe=>n2.1 (by rw[he];exact aS);have dx:B<=g:=(h.lo g (by simp only[JY] at aS ⊢;exact .inr (.inr aS))).1;have n:∀b,P b->J.heap[b]?=w.heap[b]?:=λb O=>aj b (aC (h.pb b O));refine {th:=a5,gl:=h.gl.trans bC.symm,tl:=h.tl.trans cn.symm,hl:=h.hl.trans bG.symm,g:=hG,t:=hT,h:=h.h.al λb O=>aj b (by rw[J9.1 O];exact c),lJ:=h.lJ,pA:=λj cR be cv=>?_,FY:=h.FY,l:=bP,fr:=D.bY n _ _ h.fr,lk:=by rw[b3];exact h.lk.al n,F0:=by rw[b3];exact h.F0,i:=hI,o:=?_,nd:=h.nd,lo:=λb O=>by rw[bH];exact h.lo b O,pb:=h.pb}
 .obtain⟨u,hu,aZ⟩:=h.pA j cR be ((d j be).symm.trans cv);exact⟨u,hu,D.aD n _ _ aZ⟩
 .have:=(aj N aK).trans h.o;unfold SV.val at this ⊢
  rwa [a]
namespace B6
theorem tI(h:p:=by
 obtain⟨g,bu,-,-,-,-,hs⟩:=h.l.block ad;obtain rfl:lb=g:=by simpa using bu
 have ag:=hs (fs.length*4+1) (.int .i64 v) ad;rw[List.set_append_right _ _ ad,S,Nat.add_sub_cancel_left] at ag;exact h.H8 (g:=lb) (by simp) (by simp[World.setCell]) (λb O=>aJ O) (λj be=>by simp[Ne.symm be]) (by simp[aq]) rfl rfl (by simp) rfl rfl
  (h.g.al λb O=>aJ (hn b (by simp[O]))) (h.t.al λb O=>aJ (hn b (by simp[O]))) ag (h.i.al λb O=>aJ (hn b (by simp[O])))
 ):p:=h
end B6
open B6 in
theorem RO.pc(h:RO P B w s k fs f N q O lb lc hx co IA ic bo y F1 F2 bf)(v:Int) :
  RO P B (w.setCell ⟨lb,fs.length*4+1,none⟩ (.int .i64 v)) {s with threads:=s.threads.set k (fs++[{f with pc:=v}])} k fs {f with pc:=v} N q O lb lc hx co IA ic bo y F1 F2 bf:=by
 have aq:=(List.getElem?_eq_some_iff.1 h.th).1;have n1:=List.nodup_cons.1 (List.nodup_cons.1 (List.nodup_cons.1 h.nd).2).2;have hn:∀b∈F1++(F2++bf),b≠lb:=λb O he=>n1.1 (he▸O);exact tH
namespace B7
theorem tI(h:p:=by
 have aT:k<q.hn:=by rw[h.hl];exact aq
 obtain⟨g,bu,-,hl,hc,aA,-⟩:=h.l.block ad;obtain rfl:lb=g:=by simpa using bu
 obtain⟨g2,a7,-,bZ,ck,ax,-⟩:=h.h.block ad;obtain rfl:O=g2:=by have:=h.lJ.symm.trans a7;simpa using this
 refine⟨hl,bZ,aA,ax,ck _ _ h.FY,hc _ _ ?_,hc _ _ ?_,hc _ _ ?_,hc _ _ ?_,aT⟩<;>rw[<-S,List.getElem?_append_right ad]<;>simp
 ):p:=h
end B7
open B7 in
theorem RO.top(h:RO P B w s k fs f N q O lb lc hx co IA ic bo y F1 F2 bf):lb<w.heap.size/\O<w.heap.size/\(∀j,w.frozen? ⟨lb,j,none⟩=false)/\(∀j,w.frozen? ⟨O,j,none⟩=false)/\w.cell? ⟨O,k,none⟩=some (.slice (some ⟨lb,0,none⟩) (fs.length+1) lc)/\w.cell? ⟨lb,fs.length*4,none⟩=some (.int .i64 f.proc)/\w.cell? ⟨lb,fs.length*4+1,none⟩=some (.int .i64 f.pc)/\
  w.cell? ⟨lb,fs.length*4+2,none⟩=some (.slice IA f.ints.length ic)/\w.cell? ⟨lb,fs.length*4+3,none⟩=some (.slice bo f.aq.length y)/\k<q.hn:=by
 have aq:=(List.getElem?_eq_some_iff.1 h.th).1;exact tH
theorem RO.ints(h:RO P B w s k fs f N q O lb lc hx co IA ic bo y F1 F2 bf){j:Nat}(be:j<f.ints.length):∃T,IA=some ⟨T,0,none⟩/\T<w.heap.size/\w.frozen? ⟨T,j,none⟩=false/\(∃u,w.cell? ⟨T,j,none⟩=some u)/\T≠N/\B<=T/\
  ∀v,RO P B (w.setCell ⟨T,j,none⟩ (.int .i64 v)) {s with threads:=s.threads.set k (fs++[{f with ints:=f.ints.set j v}])} k fs {f with ints:=f.ints.set j v} N q O lb lc hx co IA ic bo y F1 F2 bf:=by
 have aq:=(List.getElem?_eq_some_iff.1 h.th).1;obtain⟨T,aR,rfl,cC,hc,aA,hs⟩:=h.i.block ad;have hm:T∈N::O::lb::(F1++(F2++[T])):=by simp
 have n1:=List.nodup_cons.1 h.nd;have hn:∀b∈lb::(F1++F2),b≠T:=by
  have:=dZ (A:=lb::(F1++F2)) (B:=[]) (x:=T) (by simpa[JW] using (List.nodup_cons.1 n1.2).2);simpa using this
 refine⟨T,aR,cC,aA j,⟨_,hc j (cX f.ints[j]) (by simp[be])⟩,λhe=>n1.1 (by rw[he];simp),(h.lo T hm).1,λv=>?_⟩;have ag:=hs j (.int .i64 v) ad;refine h.H8 (g:=T) (by simp) (by simp[World.setCell]) (λb O=>aJ O) (λj be=>by simp[Ne.symm be]) (by simp[aq]) rfl rfl (by simp) rfl rfl
  (h.g.al λb O=>aJ (hn b (by simp[O]))) (h.t.al λb O=>aJ (hn b (by simp[O]))) ?_ ?_
 .simp only[List.length_set];exact h.l.al λb O=>aJ (hn b (by simp[J9.1 O]))
 .simp only[List.length_set];rw[oA];exact ag
theorem RO.c5(h:RO P B w s k fs f N q O lb lc hx co IA ic bo y F1 F2 bf){j:Nat}(be:j<q.gn):∃a1,q.GA=some ⟨a1,0,none⟩/\a1<w.heap.size/\w.frozen? ⟨a1,j,none⟩=false/\(∃u,w.cell? ⟨a1,j,none⟩=some u)/\a1≠N/\B<=a1/\
  ∀v,RO P B (w.setCell ⟨a1,j,none⟩ (.int .i64 v)) {s with globals:=s.globals.set j v} k fs f N q O lb lc hx co IA ic bo y F1 F2 bf:=by
 obtain⟨a1,aQ,rfl,bC,hc,aA,hs⟩:=h.g.block ad;have hm:a1∈N::O::lb::([a1]++(F2++bf)):=by simp
 have n1:=List.nodup_cons.1 h.nd;have hn:∀b∈lb::(F2++bf),b≠a1:=by
  have:=dZ (A:=[lb]) (B:=F2++bf) (x:=a1) (by simpa using (List.nodup_cons.1 n1.2).2);simpa using this
 have bF:j<s.globals.length:=by rw[<-h.gl];exact be
 refine⟨a1,aQ,bC,aA j,⟨_,hc j (cX s.globals[j]) (by simp[bF])⟩,λhe=>n1.1 (by rw[he];simp),(h.lo a1 hm).1,λv=>?_⟩;have ag:=hs j (.int .i64 v) ad;rw[<-show (.int .i64 v:Value)=.int .i64 v from rfl] at ag;refine h.H8 (g:=a1) (by simp) (by simp[World.setCell]) (λb O=>aJ O) (λ_ _=>rfl) h.th (by simp) rfl rfl rfl rfl
  ?_ (h.t.al λb O=>aJ (hn b (by simp[O]))) (h.l.al λb O=>aJ (hn b (by simp[J9.1 O]))) (h.i.al λb O=>aJ (hn b (by simp[O])))
 show Own _ 3 1 q.GA q.gn q.gc ((s.globals.set j v).map cX) [a1]
 rw[oA];exact ag
end
section
variable {P:Nat->Prop} {B:Nat} {w J X:World} {s aB:ah} {k:Nat} {fs:List ai} {f U:ai} {N:Nat} {q:SV} {O lb lc:Nat} {hx co:List Value} {IA:Kj} {ic:Nat} {bo:Kj} {y:Nat} {F1 F2 bf:List Nat}
theorem RO.sep(h:RO P B w s k fs f N q O lb lc hx co IA ic bo y F1 F2 bf):N≠O/\N≠lb/\O≠lb/\(∀b∈F1++(F2++bf),b≠N/\b≠O/\b≠lb)/\∀b,P b->b<w.heap.size/\b≠N/\b≠O/\b≠lb:=by
 have n1:=List.nodup_cons.1 h.nd;have n2:=List.nodup_cons.1 n1.2;have n3:=List.nodup_cons.1 n2.2;refine⟨λhe=>n1.1 (by rw[he];simp),λhe=>n1.1 (by rw[he];simp),λhe=>n2.1 (by rw[he];simp),λb hm=>⟨λhe=>n1.1 (he▸?_),λhe=>n2.1 (he▸?_),λhe=>n3.1 (he▸hm)⟩,λb hm=>?_⟩
 .exact List.mem_cons_of_mem _ (List.mem_cons_of_mem _ hm)
 .exact List.mem_cons_of_mem _ hm
 .have ac:=h.pb b hm;have ap:=h.lo N (by simp);have aD:=h.lo O (by simp);have bt:=h.lo lb (by simp);omega
theorem RO.fin(h:RO P B w s k fs f N q O lb lc hx co IA ic bo y F1 F2 bf)(bH:w.heap.size<=X.heap.size)(aj:∀b,b<w.heap.size->b≠O->b≠lb->X.heap[b]?=w.heap[b]?){T:List ai}{v:Value}
  (uh:Own X 56 1 q.HA q.hn q.hc (hx.set k v) [O]) (bD:(jg T).rep X (λb=>P b\/(B<=b/\b<X.heap.size)) [v]) :
  q.Is X (λb=>P b\/(B<=b/\b<X.heap.size)) {s with threads:=s.threads.set k T}/\au X N 31 (q.val s):=by
 obtain⟨d1,d2,d3,i,e⟩:=h.sep;have bc:=h.lo;have E:∀b∈N::O::lb::(F1++(F2++bf)),P b\/(B<=b/\b<X.heap.size):=λb O=>.inr ⟨(bc b O).1,by have:=(bc b O).2;omega⟩;have g:∀b∈F1++(F2++bf),X.heap[b]?=w.heap[b]?:=λb O=>aj b (bc b (List.mem_cons_of_mem _ (List.mem_cons_of_mem _ (List.mem_cons_of_mem _ O)))).2 (i b O).2.1 (i b O).2.2;have n:∀b,P b->X.heap[b]?=w.heap[b]?:=λb O=>aj b (e b O).1 (e b O).2.2.1 (e b O).2.2.2;have a:∀b,P b->P b\/(B<=b/\b<X.heap.size):=λb O=>.inl O;have aK:hx.length=s.threads.length:=by have:=h.h.row.1;rw[Nat.mul_one] at this;rw[this];exact h.hl
 have aq:=(List.getElem?_eq_some_iff.1 h.th).1;refine⟨⟨⟨?_,?_,?_⟩,h.g.cap,h.t.cap,h.h.cap⟩,(aj N (bc N (by simp)).2 d1 d2).trans h.o⟩
 .exact(h.g.al λb O=>g b (by simp[O])).sl (ck _) (by rw[JM];exact h.gl.symm) λb O=>E b (by simp[O])
 .exact(h.t.al λb O=>g b (by simp[O])).sl (dd _) (by rw[JM];exact h.tl.symm) λb O=>E b (by simp[O])
 .refine uh.sl (lW _ _ (by simpa using aK) λj x be=>?_) (by simp only[JM,List.length_set];exact h.hl.symm) λb O=>E b (by simp[J9.1 O]);by_cases z:j=k
  .subst z;rw[List.getElem?_set_self aq] at be;injection be with be;subst be;exact⟨v,List.getElem?_set_self ad,bD⟩
  .rw[List.getElem?_set_ne (Ne.symm z)] at be;obtain⟨u,hu,aZ⟩:=h.pA j x z be;exact⟨u,by rw[List.getElem?_set_ne (Ne.symm z)];exact hu,D.aA a _ _ (D.aD n _ _ aZ)⟩
theorem RO.uh(h:RO P B w s k fs f N q O lb lc hx co IA ic bo y F1 F2 bf)(v:Value):Own (w.setCell ⟨O,k,none⟩ v) 56 1 q.HA q.hn q.hc (hx.set k v) [O]:=by
 have aq:=(List.getElem?_eq_some_iff.1 h.th).1;have aT:k<q.hn:=by rw[h.hl];exact aq
 obtain⟨g2,a7,-,-,-,-,hs⟩:=h.h.block ad;obtain rfl:O=g2:=by have:=h.lJ.symm.trans a7;simpa using this
 exact hs k v ad
namespace B8
theorem tI(h:p:=by
 have hc:=h.l.cap;have hl:=(h.l.shorter (m:=fs.length) ad ad).al (J:=X) λb O=>aG b (by rw[J9.1 O];exact Ne.symm d3);rw[List.take_append_of_le_length ad,JQ ad] at hl;refine h.fin ad (λb _ ac _=>aG b ac) (by rw[<-hX];exact h.uh _) (ei.2 ⟨_,fs.length,lc,rfl,ad,hl.sl (D.bZ (λb O=>.inl O) _ _ (D.bY (λb O=>aG b (e b O).2.2.1) _ _ h.fr)) (by simp) λb aN=>.inr ?_⟩);rw[J9.1 aN,bp];exact h.lo lb (by simp)
 ):p:=h
end B8
open B8 in
theorem RO.drop(h:RO P B w s k fs f N q O lb lc hx co IA ic bo y F1 F2 bf)(hX:w.setCell ⟨O,k,none⟩ (.slice (some ⟨lb,0,none⟩) fs.length lc)=X) :
  q.Is X (λb=>P b\/(B<=b/\b<X.heap.size)) {s with threads:=s.threads.set k fs}/\au X N 31 (q.val s):=by
 obtain⟨d1,d2,d3,i,e⟩:=h.sep;have bp:X.heap.size=w.heap.size:=by rw[<-hX];simp[World.setCell]
 have aG:∀b,b≠O->X.heap[b]?=w.heap[b]?:=λb O=>by rw[<-hX];exact aJ O
 exact tH
theorem RO.push(h:RO P B w s k fs f N q O lb lc hx co IA ic bo y F1 F2 bf){cs:List Value}(cI:(dP R).rep w v cs)(c:∀b,v b->B<=b/\b<w.heap.size/\b≠O/\b≠lb)
  {a1:Kj} {aW:Nat} {aV:World} (aZ:Own aV 59 4 a1 (fs.length+2) aW (co++[.int .i64 f.proc,.int .i64 f.pc,.slice IA f.ints.length ic,.slice bo f.aq.length y]++cs) (bd a1 (fs.length+2) aW))
  (bO:Fr (λb=>b=lb) w aV) (r:∀b∈bd a1 (fs.length+2) aW,b=lb\/(w.heap.size<=b/\b<aV.heap.size)) (hX:aV.setCell ⟨O,k,none⟩ (.slice a1 (fs.length+2) aW)=X) :
  q.Is X (λb=>P b\/(B<=b/\b<X.heap.size)) {s with threads:=s.threads.set k (fs++[f]++[R])}/\au X N 31 (q.val s):=by
 obtain⟨d1,d2,d3,i,e⟩:=h.sep;have bz:=bO.size;have bp:X.heap.size=aV.heap.size:=by rw[<-hX];simp[World.setCell]
 have aG:∀b,b<w.heap.size->b≠O->b≠lb->X.heap[b]?=w.heap[b]?:=λb hl ac ap=>by rw[<-hX];exact(aJ ac).trans (bO.block b hl ap)
 have bB:=(h.lo O (by simp)).2;have F:∀b∈bd a1 (fs.length+2) aW,b≠O:=λb aN=>by
  rcases r b aN with ac|ac
  .rw[ac];exact Ne.symm d3
  .omega
 have d:=aZ.al (J:=X) λb aN=>by rw[<-hX];exact aJ (F b aN)
 have n:∀b,P b->X.heap[b]?=w.heap[b]?:=λb O=>aG b (e b O).1 (e b O).2.2.1 (e b O).2.2.2;have a:∀b,P b->P b\/(B<=b/\b<X.heap.size):=λb O=>.inl O;have E:∀b∈N::O::lb::(F1++(F2++bf)),P b\/(B<=b/\b<X.heap.size):=λb O=>.inr ⟨(h.lo b O).1,by have:=(h.lo b O).2;omega⟩;have I:=h.i.al (J:=X) λb O=>aG b (h.lo b (by simp[O])).2 (i b (by simp[O])).2.1 (i b (by simp[O])).2.2;have uh:Own X 56 1 q.HA q.hn q.hc (hx.set k (.slice a1 (fs.length+2) aW)) [O]:=by
  have ac:Own aV 56 1 q.HA q.hn q.hc hx [O]:=h.h.al λb aN=>bO.block b (by rw[J9.1 aN];exact bB) (by rw[J9.1 aN];exact d3);have aq:=(List.getElem?_eq_some_iff.1 h.th).1;have aT:k<q.hn:=by rw[h.hl];exact aq
  obtain⟨g2,a7,-,-,-,-,hs⟩:=ac.block ad;obtain rfl:O=g2:=by have:=h.lJ.symm.trans a7;simpa using this
  rw[<-hX];exact hs k _ ad
 refine h.fin ad aG uh (ei.2 ⟨_,_,_,rfl,d.cap,d.sl ?_ (by simp) λb aN=>?_⟩)
 .rw[JP,JP];refine D.cw (D.cw (D.bZ a _ _ (D.bY n _ _ h.fr)) (D.bt.2 (fy.2 ⟨_,_,_,_,_,_,rfl,h.i.cap,h.F0,I.sl (ck _) (by simp) λb O=>E b (by simp[O]),(h.lk.al n).mono a⟩))) (D.bt.2 ?_);exact D.aA (λb O=>.inr (⟨(c b O).1,by have:=(c b O).2.1;omega⟩:B<=b/\b<X.heap.size)) _ _ (D.aD (λb O=>aG b (c b O).2.1 (c b O).2.2.1 (c b O).2.2.2) _ _ cI)
 .rcases r b aN with ac|ac
  .rw[ac];exact E lb (by simp)
  .have:=(h.lo O (by simp));exact .inr ⟨ad,ad⟩
end
section
variable {P:Nat->Prop} {B:Nat} {w J X:World} {s aB:ah} {k:Nat} {fs:List ai} {f U:ai} {N:Nat} {q:SV} {O lb lc:Nat} {hx co:List Value} {IA:Kj} {ic:Nat} {bo:Kj} {y:Nat} {F1 F2 bf:List Nat}
theorem RO.G6(h:RO P B w s k fs f N q O lb lc hx co IA ic bo y F1 F2 bf){PT:Nat->Prop}{a1:Kj}{aQ aW:Nat}{T:List cp}(hT:Sl w PT a1 aQ (T.map kE))(hn:aQ<=aW)(a:∀b,PT b->P b\/(B<=b/\b<w.heap.size/\b≠N))(hX:w.setCell ⟨N,1,none⟩ (.slice a1 aQ aW)=X):
  let ao:SV:=⟨q.GA,q.gn,q.gc,a1,aQ,aW,q.HA,q.hn,q.hc⟩
  let aB:ah:={s with table:=T}
  ao.Is X (λb=>P b\/(B<=b/\b<X.heap.size)) aB/\au X N 31 (ao.val aB):=by
 intro ao aB;have bp:X.heap.size=w.heap.size:=by rw[<-hX];simp[World.setCell]
 have aj:∀b,(P b\/(B<=b/\b<w.heap.size/\b≠N))->X.heap[b]?=w.heap[b]?:=λb hm=>by
  rw[<-hX];refine aJ ?_;rcases hm with hm|hm
  .exact(h.sep.2.2.2.2 b hm).2.1
  .exact hm.2.2
 have I:=h.IS.al aj;have hm:∀b,(P b\/(B<=b/\b<w.heap.size/\b≠N))->P b\/(B<=b/\b<X.heap.size):=λb O=>O.imp id λO=>⟨O.1,by rw[bp];exact O.2.1⟩
 refine⟨⟨⟨I.at_.g.mono hm,(hT.al λb O=>aj b (a b O)).mono λb O=>hm b (a b O),I.at_.h.mono hm⟩,I.gc,hn,I.hc⟩,?_⟩;rw[<-hX];exact h.o.bH 1 _
theorem RO.start(h:RO P B w s k fs f N q O lb lc hx co IA ic bo y F1 F2 bf){c0 c1 c2 c3:Value}(cI:(dP R).rep w v [c0,c1,c2,c3])(c:∀b,v b->B<=b/\b<w.heap.size/\b≠O/\b≠N)
  {aL aV:World} (bi:w.alloc (.cells #[c0,c1,c2,c3] 59)=aL) {a1:Kj} {aW:Nat}
  (aZ:Own aV 56 1 a1 (q.hn+1) aW (hx++[.slice (some ⟨w.heap.size,0,none⟩) 1 1]) (bd a1 (q.hn+1) aW)) (aA:Fr (λb=>b=O) aL aV) (r:∀b∈bd a1 (q.hn+1) aW,b=O\/(aL.heap.size<=b/\b<aV.heap.size))
  (hX:aV.setCell ⟨N,2,none⟩ (.slice a1 (q.hn+1) aW)=X) :
  let ao:SV:=⟨q.GA,q.gn,q.gc,q.TA,q.tn,q.tc,a1,q.hn+1,aW⟩
  let aB:ah:={s with threads:=s.threads++[[R]]}
  ao.Is X (λb=>P b\/(B<=b/\b<X.heap.size)) aB/\au X N 31 (ao.val aB):=by
 intro ao aB;obtain⟨d1,d2,d3,i,e⟩:=h.sep;have dK:aL.heap.size=w.heap.size+1:=by rw[<-bi];simp
 have ag:=aY bi;have m:=aF bi;have bz:=aA.size;have bp:X.heap.size=aV.heap.size:=by rw[<-hX];simp[World.setCell]
 have dp:=h.lo N (by simp);have dr:=h.lo O (by simp);have a8:=h.lo lb (by simp);have aG:∀b,b<aL.heap.size->b≠N->b≠O->X.heap[b]?=aL.heap[b]?:=λb aq aH aD=>by
  rw[<-hX];exact(aJ aH).trans (aA.block b aq aD)
 have o:∀b,b<w.heap.size->b≠N->b≠O->X.heap[b]?=w.heap[b]?:=λb aq aH aD=>(aG b ad aH aD).trans (ag.block b aq λh=>h);have n:∀b,P b->X.heap[b]?=w.heap[b]?:=λb hm=>o b (e b hm).1 (e b hm).2.1 (e b hm).2.2.1;have g:∀b∈F1++(F2++bf),X.heap[b]?=w.heap[b]?:=λb hm=>o b (h.lo b (List.mem_cons_of_mem _ (List.mem_cons_of_mem _ (List.mem_cons_of_mem _ hm)))).2 (i b hm).1 (i b hm).2.1;have a:∀b,P b->P b\/(B<=b/\b<X.heap.size):=λb hm=>.inl hm;have E:∀b∈N::O::lb::(F1++(F2++bf)),P b\/(B<=b/\b<X.heap.size):=λb hm=>.inr ⟨(h.lo b hm).1,by have:=(h.lo b hm).2;omega⟩;have bC:au X w.heap.size 59 #[c0,c1,c2,c3]:=(aG _ ad ad ad).trans m;have b3:(dP R).rep X (λb=>P b\/(B<=b/\b<X.heap.size)) [c0,c1,c2,c3]:=D.aA (λb hm=>.inr (⟨(c b hm).1,by have:=(c b hm).2.1;omega⟩:B<=b/\b<X.heap.size)) _ _ (D.aD (λb hm=>o b (c b hm).2.1 (c b hm).2.2.2 (c b hm).2.2.1) _ _ cI);have cj:Sl X (λb=>P b\/(B<=b/\b<X.heap.size)) (some ⟨w.heap.size,0,none⟩) 1 ([R].map dP):=⟨rfl,λ_=>⟨w.heap.size,0,[c0,c1,c2,c3],rfl,.inr ⟨ad,ad⟩,by simp only[JO,J5];exact D.bt.2 b3,λj u hu=>by
  rw[J0,bC.cell];simpa using hu⟩⟩
 have F:∀b∈bd a1 (q.hn+1) aW,b≠N:=λb hm=>by
  rcases r b hm with ac|ac
  .rw[ac];exact Ne.symm d1
  .omega
 have d:=aZ.al (J:=X) λb hm=>by rw[<-hX];exact aJ (F b hm)
 have hl:=h.l.al (J:=X) λb hm=>by rw[J9.1 hm];exact o lb a8.2 (Ne.symm d2) (Ne.symm d3)
 have I:=h.i.al (J:=X) λb hm=>g b (by simp[hm]);have aK:hx.length=s.threads.length:=by have:=h.h.row.1;rw[Nat.mul_one] at this;rw[this];exact h.hl
 refine⟨⟨⟨?_,?_,?_⟩,h.g.cap,h.t.cap,d.cap⟩,?_⟩
 .exact(h.g.al λb hm=>g b (by simp[hm])).sl (ck _) (by rw[JM];exact h.gl.symm) λb hm=>E b (by simp[hm])
 .exact(h.t.al λb hm=>g b (by simp[hm])).sl (dd _) (by rw[JM];exact h.tl.symm) λb hm=>E b (by simp[hm])
 .refine d.sl (l:=(s.threads++[[R]]).map jg) ?_ (by simp[h.hl]) λb hm=>?_
  .rw[JP];refine D.cw (lW _ _ aK λj x be=>?_) (D.bt.2 (ei.2 ⟨_,1,1,rfl,JI _,cj⟩));by_cases z:j=k
   .subst z;have:=h.th.symm.trans be;injection this with this;subst this;refine⟨_,h.FY,ei.2 ⟨_,_,_,rfl,h.l.cap,hl.sl ?_ (by simp) λb hm=>E b (by simp[J9.1 hm])⟩⟩;rw[JP];exact D.cw (D.bZ a _ _ (D.bY n _ _ h.fr)) (D.bt.2 (fy.2 ⟨_,_,_,_,_,_,rfl,h.i.cap,h.F0,I.sl (ck _) (by simp) λb hm=>E b (by simp[hm]),(h.lk.al n).mono a⟩))
   .obtain⟨u,hu,aZ⟩:=h.pA j x z be;exact⟨u,hu,D.aA a _ _ (D.aD n _ _ aZ)⟩
  .rcases r b hm with ac|ac
   .rw[ac];exact E O (by simp)
   .exact .inr ⟨ad,ad⟩
 .have:=(h.o.aj ag).on aA d1;rw[<-hX];exact this.bH 2 _
end
end Go.Proofs.YtnigabjngpnbiaaGreat

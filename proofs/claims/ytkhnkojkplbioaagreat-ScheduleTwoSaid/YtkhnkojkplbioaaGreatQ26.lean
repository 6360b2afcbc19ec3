/- Part 26 of the proof. No condition of its own. -/
import Derived.Test.YtkhnkojkplbioaaGreatQ25
namespace Go.Proofs.YtkhnkojkplbioaaGreat
open Go.RowKit Go.Proofs.Tryz
set_option maxRecDepth 1000000
set_option maxHeartbeats 25600000
set_option linter.unusedVariables false
variable{b:Bool}{y:Nat->Prop}{p:Prop}{Z:World}{R:ak}
theorem m5{α:Type}{enc:α->D}{w:World}{P:Nat->Prop}:∀(l:List α) (xs:List Value),xs.length=l.length->(∀(j:Nat) (x:α),l[j]?=some x->∃u,xs[j]?=some u/\(enc x).rep w P [u])->D.aQ w P (l.map enc) xs
 | [],[],_,_=>aP.2 rfl
 | [],_::_,h,_=>by simp at h
 | _::_,[],h,_=>by simp at h
 | a::l,v::xs,h,hp=>by
  obtain⟨u,hu,ba⟩:=hp 0 a rfl;simp only[List.getElem?_cons_zero,LP] at hu;subst hu;exact dH.2 ⟨[v],xs,rfl,ba,m5 l xs (by simpa using h) λj x hx=>by simpa using hp (j+1) x (by simpa using hx)⟩
section
variable {P:Nat->Prop} {B:Nat} {w ab:World} {s Q:ai} {k:Nat} {fs:List ak} {f a5:ak} {N:Nat} {q:SV} {O lb lc:Nat} {hx b3:List Value} {IA:L3} {ic:Nat} {S:L3} {aH:Nat} {F1 F2 bj:List Nat}
theorem RO.Ko(h:RO P B w s k fs f N q O lb lc hx b3 IA ic S aH F1 F2 bj):q.Is w (λb=>P b\/(B<=b/\b<w.heap.size/\b≠N)) s:=by
 have bB:=h.lo;have aG:∀b∈O::lb::(F1++(F2++bj)),P b\/(B<=b/\b<w.heap.size/\b≠N):=λb hm=>.inr ⟨(bB b (List.mem_cons_of_mem _ hm)).1,(bB b (List.mem_cons_of_mem _ hm)).2,λhe=>(List.nodup_cons.1 h.nd).1 (he▸hm)⟩;have a:∀b,P b->P b\/(B<=b/\b<w.heap.size/\b≠N):=λb O=>.inl O;refine⟨⟨?_,?_,?_⟩,h.g.cap,h.t.cap,h.h.cap⟩
 .exact h.g.sl (cx _) (by rw[Lo];exact h.gl.symm) λb O=>aG b (by simp[O])
 .exact h.t.sl (dA _) (by rw[Lo];exact h.tl.symm) λb O=>aG b (by simp[O])
 .have cn:hx.length=s.threads.length:=by have:=h.h.row.1;rw[Nat.mul_one] at this;rw[this];exact h.hl
  refine h.h.sl (m5 _ _ cn λj x bi=>?_) (by rw[Lo];exact h.hl.symm) λb O=>aG b (by simp[LO.1 O]);by_cases z:j=k
  .subst z;have:=h.th.symm.trans bi;injection this with this;subst this;refine⟨_,h.zu,eV.2 ⟨_,_,_,rfl,h.l.cap,h.l.sl ?_ (by simp) λb O=>aG b (by simp[LO.1 O])⟩⟩;rw[Lr];exact D.cI (D.bZ a _ _ h.fr) (D.bm.2 (gh.2 ⟨_,_,_,_,_,_,rfl,h.i.cap,h.Hp,h.i.sl (cx _) (by simp) λb O=>aG b (by simp[O]),h.lk.mono a⟩))
  .obtain⟨u,hu,ba⟩:=h.rk j x z bi;exact⟨u,hu,D.aL a _ _ ba⟩
theorem RO.is(h:RO P B w s k fs f N q O lb lc hx b3 IA ic S aH F1 F2 bj):q.Is w (λb=>P b\/(B<=b/\b<w.heap.size)) s:=h.Ko.mono λb O=>O.imp id λO=>⟨O.1,O.2.1⟩
theorem RO.JI(h:RO P B w s k fs f N q O lb lc hx b3 IA ic S aH F1 F2 bj){g:Nat}(a9:g∈lb::(F1++(F2++bj)))(bI:ab.heap.size=w.heap.size)(ap:∀b,b≠g->ab.heap[b]?=w.heap[b]?)
  (c:∀j,j≠k->Q.threads[j]?=s.threads[j]?) (aL:Q.threads[k]?=some (fs++[a5])) (ci:Q.globals.length=s.globals.length) (cy:Q.table.length=s.table.length) (cl:Q.threads.length=s.threads.length) (E:Q.fault=s.fault) (cg:a5.au=f.au)
  (hG:Own ab 3 1 q.GA q.gn q.gc (Q.globals.map df) F1) (hT:Own ab 123 2 q.TA q.tn q.tc (Q.table.flatMap bK) F2)
  (bU:Own ab 72 4 (some ⟨lb,0,none⟩) (fs.length+1) lc (b3++[.int .i64 a5.proc,.int .i64 a5.pc,.slice IA a5.ints.length ic,.slice S a5.au.length aH]) [lb])
  (hI:Own ab 3 1 IA a5.ints.length ic (a5.ints.map df) bj):RO P B ab Q k fs a5 N q O lb lc hx b3 IA ic S aH F1 F2 bj:=by
 have n1:=List.nodup_cons.1 h.nd;have n2:=List.nodup_cons.1 n1.2;have au:N≠g:=λhe=>n1.1 (by rw[he];exact List.mem_cons_of_mem _ a9);have a:O≠g:=λhe=>n2.1 (by rw[he];exact a9);have dx:B<=g:=(h.lo g (by simp only[LC] at a9 ⊢;exact .inr (.inr a9))).1;have n:∀b,P b->ab.heap[b]?=w.heap[b]?:=λb O=>ap b (aD (h.pb b O));refine {th:=aL,gl:=h.gl.trans ci.symm,tl:=h.tl.trans cy.symm,hl:=h.hl.trans cl.symm,g:=hG,t:=hT,h:=h.h.al λb O=>ap b (by rw[LO.1 O];exact a),mO:=h.mO,rk:=λj cT bi cc=>?_,zu:=h.zu,l:=bU,fr:=D.bY n _ _ h.fr,lk:=by rw[cg];exact h.lk.al n,Hp:=by rw[cg];exact h.Hp,i:=hI,o:=?_,nd:=h.nd,lo:=λb O=>by rw[bI];exact h.lo b O,pb:=h.pb}
 .obtain⟨u,hu,ba⟩:=h.rk j cT bi ((c j bi).symm.trans cc);exact⟨u,hu,D.aS n _ _ ba⟩
 .have:=(ap N au).trans h.o;unfold SV.val at this ⊢
  rwa [E]
namespace Ds
theorem v3(h:p:=by
 obtain⟨g,aX,-,-,-,-,hs⟩:=h.l.block ad;obtain rfl:lb=g:=by simpa using aX
 have L:=hs (fs.length*4+1) (.int .i64 v) ad;rw[List.set_append_right _ _ ad,Z,Nat.add_sub_cancel_left] at L;exact h.JI (g:=lb) (by simp) (by simp[World.setCell]) (λb O=>aR O) (λj bi=>by simp[Ne.symm bi]) (by simp[al]) rfl rfl (by simp) rfl rfl
  (h.g.al λb O=>aR (hn b (by simp[O]))) (h.t.al λb O=>aR (hn b (by simp[O]))) L (h.i.al λb O=>aR (hn b (by simp[O])))
 ):p:=h
end Ds
open Ds in
theorem RO.pc(h:RO P B w s k fs f N q O lb lc hx b3 IA ic S aH F1 F2 bj)(v:Int) :
  RO P B (w.setCell ⟨lb,fs.length*4+1,none⟩ (.int .i64 v)) {s with threads:=s.threads.set k (fs++[{f with pc:=v}])} k fs {f with pc:=v} N q O lb lc hx b3 IA ic S aH F1 F2 bj:=by
 have al:=(List.getElem?_eq_some_iff.1 h.th).1;have n1:=List.nodup_cons.1 (List.nodup_cons.1 (List.nodup_cons.1 h.nd).2).2;have hn:∀b∈F1++(F2++bj),b≠lb:=λb O he=>n1.1 (he▸O);exact vZ
namespace Dt
theorem v3(h:p:=by
 have bH:k<q.hn:=by rw[h.hl];exact al
 obtain⟨g,aX,-,hl,hc,J,-⟩:=h.l.block ad;obtain rfl:lb=g:=by simpa using aX
 obtain⟨g2,aZ,-,bc,ca,az,-⟩:=h.h.block ad;obtain rfl:O=g2:=by have:=h.mO.symm.trans aZ;simpa using this
 refine⟨hl,bc,J,az,ca _ _ h.zu,hc _ _ ?_,hc _ _ ?_,hc _ _ ?_,hc _ _ ?_,bH⟩<;>rw[<-Z,List.getElem?_append_right ad]<;>simp
 ):p:=h
end Dt
open Dt in
theorem RO.top(h:RO P B w s k fs f N q O lb lc hx b3 IA ic S aH F1 F2 bj):lb<w.heap.size/\O<w.heap.size/\(∀j,w.frozen? ⟨lb,j,none⟩=false)/\(∀j,w.frozen? ⟨O,j,none⟩=false)/\w.cell? ⟨O,k,none⟩=some (.slice (some ⟨lb,0,none⟩) (fs.length+1) lc)/\w.cell? ⟨lb,fs.length*4,none⟩=some (.int .i64 f.proc)/\w.cell? ⟨lb,fs.length*4+1,none⟩=some (.int .i64 f.pc)/\
  w.cell? ⟨lb,fs.length*4+2,none⟩=some (.slice IA f.ints.length ic)/\w.cell? ⟨lb,fs.length*4+3,none⟩=some (.slice S f.au.length aH)/\k<q.hn:=by
 have al:=(List.getElem?_eq_some_iff.1 h.th).1;exact vZ
theorem RO.ints(h:RO P B w s k fs f N q O lb lc hx b3 IA ic S aH F1 F2 bj){j:Nat}(bi:j<f.ints.length):∃I,IA=some ⟨I,0,none⟩/\I<w.heap.size/\w.frozen? ⟨I,j,none⟩=false/\(∃u,w.cell? ⟨I,j,none⟩=some u)/\I≠N/\B<=I/\
  ∀v,RO P B (w.setCell ⟨I,j,none⟩ (.int .i64 v)) {s with threads:=s.threads.set k (fs++[{f with ints:=f.ints.set j v}])} k fs {f with ints:=f.ints.set j v} N q O lb lc hx b3 IA ic S aH F1 F2 bj:=by
 have al:=(List.getElem?_eq_some_iff.1 h.th).1;obtain⟨I,dm,rfl,cF,hc,J,hs⟩:=h.i.block ad;have hm:I∈N::O::lb::(F1++(F2++[I])):=by simp
 have n1:=List.nodup_cons.1 h.nd;have hn:∀b∈lb::(F1++F2),b≠I:=by
  have:=eJ (A:=lb::(F1++F2)) (B:=[]) (x:=I) (by simpa[Ly] using (List.nodup_cons.1 n1.2).2);simpa using this
 refine⟨I,dm,cF,J j,⟨_,hc j (df f.ints[j]) (by simp[bi])⟩,λhe=>n1.1 (by rw[he];simp),(h.lo I hm).1,λv=>?_⟩;have L:=hs j (.int .i64 v) ad;refine h.JI (g:=I) (by simp) (by simp[World.setCell]) (λb O=>aR O) (λj bi=>by simp[Ne.symm bi]) (by simp[al]) rfl rfl (by simp) rfl rfl
  (h.g.al λb O=>aR (hn b (by simp[O]))) (h.t.al λb O=>aR (hn b (by simp[O]))) ?_ ?_
 .simp only[List.length_set];exact h.l.al λb O=>aR (hn b (by simp[LO.1 O]))
 .simp only[List.length_set];rw[qp];exact L
theorem RO.c7(h:RO P B w s k fs f N q O lb lc hx b3 IA ic S aH F1 F2 bj){j:Nat}(bi:j<q.gn):∃bL,q.GA=some ⟨bL,0,none⟩/\bL<w.heap.size/\w.frozen? ⟨bL,j,none⟩=false/\(∃u,w.cell? ⟨bL,j,none⟩=some u)/\bL≠N/\B<=bL/\
  ∀v,RO P B (w.setCell ⟨bL,j,none⟩ (.int .i64 v)) {s with globals:=s.globals.set j v} k fs f N q O lb lc hx b3 IA ic S aH F1 F2 bj:=by
 obtain⟨bL,y,rfl,ci,hc,J,hs⟩:=h.g.block ad;have hm:bL∈N::O::lb::([bL]++(F2++bj)):=by simp
 have n1:=List.nodup_cons.1 h.nd;have hn:∀b∈lb::(F2++bj),b≠bL:=by
  have:=eJ (A:=[lb]) (B:=F2++bj) (x:=bL) (by simpa using (List.nodup_cons.1 n1.2).2);simpa using this
 have bq:j<s.globals.length:=by rw[<-h.gl];exact bi
 refine⟨bL,y,ci,J j,⟨_,hc j (df s.globals[j]) (by simp[bq])⟩,λhe=>n1.1 (by rw[he];simp),(h.lo bL hm).1,λv=>?_⟩;have L:=hs j (.int .i64 v) ad;rw[<-show (.int .i64 v:Value)=.int .i64 v from rfl] at L;refine h.JI (g:=bL) (by simp) (by simp[World.setCell]) (λb O=>aR O) (λ_ _=>rfl) h.th (by simp) rfl rfl rfl rfl
  ?_ (h.t.al λb O=>aR (hn b (by simp[O]))) (h.l.al λb O=>aR (hn b (by simp[LO.1 O]))) (h.i.al λb O=>aR (hn b (by simp[O])))
 show Own _ 3 1 q.GA q.gn q.gc ((s.globals.set j v).map df) [bL]
 rw[qp];exact L
end
section
variable {P:Nat->Prop} {B:Nat} {w ab X:World} {s Q:ai} {k:Nat} {fs:List ak} {f a5:ak} {N:Nat} {q:SV} {O lb lc:Nat} {hx b3:List Value} {IA:L3} {ic:Nat} {S:L3} {aH:Nat} {F1 F2 bj:List Nat}
theorem RO.sep(h:RO P B w s k fs f N q O lb lc hx b3 IA ic S aH F1 F2 bj):N≠O/\N≠lb/\O≠lb/\(∀b∈F1++(F2++bj),b≠N/\b≠O/\b≠lb)/\∀b,P b->b<w.heap.size/\b≠N/\b≠O/\b≠lb:=by
 have n1:=List.nodup_cons.1 h.nd;have n2:=List.nodup_cons.1 n1.2;have n3:=List.nodup_cons.1 n2.2;refine⟨λhe=>n1.1 (by rw[he];simp),λhe=>n1.1 (by rw[he];simp),λhe=>n2.1 (by rw[he];simp),λb hm=>⟨λhe=>n1.1 (he▸?_),λhe=>n2.1 (he▸?_),λhe=>n3.1 (he▸hm)⟩,λb hm=>?_⟩
 .exact List.mem_cons_of_mem _ (List.mem_cons_of_mem _ hm)
 .exact List.mem_cons_of_mem _ hm
 .have ac:=h.pb b hm;have au:=h.lo N (by simp);have aY:=h.lo O (by simp);have bR:=h.lo lb (by simp);omega
theorem RO.fin(h:RO P B w s k fs f N q O lb lc hx b3 IA ic S aH F1 F2 bj)(bI:w.heap.size<=X.heap.size)(ap:∀b,b<w.heap.size->b≠O->b≠lb->X.heap[b]?=w.heap[b]?){T:List ak}{v:Value}
  (wC:Own X 68 1 q.HA q.hn q.hc (hx.set k v) [O]) (bG:(jW T).rep X (λb=>P b\/(B<=b/\b<X.heap.size)) [v]) :
  q.Is X (λb=>P b\/(B<=b/\b<X.heap.size)) {s with threads:=s.threads.set k T}/\aq X N 40 (q.val s):=by
 obtain⟨d1,d2,d3,o,g⟩:=h.sep;have bB:=h.lo;have aG:∀b∈N::O::lb::(F1++(F2++bj)),P b\/(B<=b/\b<X.heap.size):=λb O=>.inr ⟨(bB b O).1,by have:=(bB b O).2;omega⟩;have i:∀b∈F1++(F2++bj),X.heap[b]?=w.heap[b]?:=λb O=>ap b (bB b (List.mem_cons_of_mem _ (List.mem_cons_of_mem _ (List.mem_cons_of_mem _ O)))).2 (o b O).2.1 (o b O).2.2;have n:∀b,P b->X.heap[b]?=w.heap[b]?:=λb O=>ap b (g b O).1 (g b O).2.2.1 (g b O).2.2.2;have a:∀b,P b->P b\/(B<=b/\b<X.heap.size):=λb O=>.inl O;have cn:hx.length=s.threads.length:=by have:=h.h.row.1;rw[Nat.mul_one] at this;rw[this];exact h.hl
 have al:=(List.getElem?_eq_some_iff.1 h.th).1;refine⟨⟨⟨?_,?_,?_⟩,h.g.cap,h.t.cap,h.h.cap⟩,(ap N (bB N (by simp)).2 d1 d2).trans h.o⟩
 .exact(h.g.al λb O=>i b (by simp[O])).sl (cx _) (by rw[Lo];exact h.gl.symm) λb O=>aG b (by simp[O])
 .exact(h.t.al λb O=>i b (by simp[O])).sl (dA _) (by rw[Lo];exact h.tl.symm) λb O=>aG b (by simp[O])
 .refine wC.sl (m5 _ _ (by simpa using cn) λj x bi=>?_) (by simp only[Lo,List.length_set];exact h.hl.symm) λb O=>aG b (by simp[LO.1 O]);by_cases z:j=k
  .subst z;rw[List.getElem?_set_self al] at bi;injection bi with bi;subst bi;exact⟨v,List.getElem?_set_self ad,bG⟩
  .rw[List.getElem?_set_ne (Ne.symm z)] at bi;obtain⟨u,hu,ba⟩:=h.rk j x z bi;exact⟨u,by rw[List.getElem?_set_ne (Ne.symm z)];exact hu,D.aL a _ _ (D.aS n _ _ ba)⟩
theorem RO.wC(h:RO P B w s k fs f N q O lb lc hx b3 IA ic S aH F1 F2 bj)(v:Value):Own (w.setCell ⟨O,k,none⟩ v) 68 1 q.HA q.hn q.hc (hx.set k v) [O]:=by
 have al:=(List.getElem?_eq_some_iff.1 h.th).1;have bH:k<q.hn:=by rw[h.hl];exact al
 obtain⟨g2,aZ,-,-,-,-,hs⟩:=h.h.block ad;obtain rfl:O=g2:=by have:=h.mO.symm.trans aZ;simpa using this
 exact hs k v ad
namespace Du
theorem v3(h:p:=by
 have hc:=h.l.cap;have hl:=(h.l.shorter (m:=fs.length) ad ad).al (ab:=X) λb O=>ax b (by rw[LO.1 O];exact Ne.symm d3);rw[List.take_append_of_le_length ad,Ls ad] at hl;refine h.fin ad (λb _ ac _=>ax b ac) (by rw[<-hX];exact h.wC _) (eV.2 ⟨_,fs.length,lc,rfl,ad,hl.sl (D.bZ (λb O=>.inl O) _ _ (D.bY (λb O=>ax b (g b O).2.2.1) _ _ h.fr)) (by simp) λb aT=>.inr ?_⟩);rw[LO.1 aT,H];exact h.lo lb (by simp)
 ):p:=h
end Du
open Du in
theorem RO.drop(h:RO P B w s k fs f N q O lb lc hx b3 IA ic S aH F1 F2 bj)(hX:w.setCell ⟨O,k,none⟩ (.slice (some ⟨lb,0,none⟩) fs.length lc)=X) :
  q.Is X (λb=>P b\/(B<=b/\b<X.heap.size)) {s with threads:=s.threads.set k fs}/\aq X N 40 (q.val s):=by
 obtain⟨d1,d2,d3,o,g⟩:=h.sep;have H:X.heap.size=w.heap.size:=by rw[<-hX];simp[World.setCell]
 have ax:∀b,b≠O->X.heap[b]?=w.heap[b]?:=λb O=>by rw[<-hX];exact aR O
 exact vZ
theorem RO.push(h:RO P B w s k fs f N q O lb lc hx b3 IA ic S aH F1 F2 bj){cs:List Value}(cZ:(ew R).rep w y cs)(c:∀b,y b->B<=b/\b<w.heap.size/\b≠O/\b≠lb)
  {I:L3} {aK:Nat} {aU:World} (ba:Own aU 72 4 I (fs.length+2) aK (b3++[.int .i64 f.proc,.int .i64 f.pc,.slice IA f.ints.length ic,.slice S f.au.length aH]++cs) (bt I (fs.length+2) aK))
  (cd:Fr (λb=>b=lb) w aU) (r:∀b∈bt I (fs.length+2) aK,b=lb\/(w.heap.size<=b/\b<aU.heap.size)) (hX:aU.setCell ⟨O,k,none⟩ (.slice I (fs.length+2) aK)=X) :
  q.Is X (λb=>P b\/(B<=b/\b<X.heap.size)) {s with threads:=s.threads.set k (fs++[f]++[R])}/\aq X N 40 (q.val s):=by
 obtain⟨d1,d2,d3,o,g⟩:=h.sep;have bN:=cd.size;have H:X.heap.size=aU.heap.size:=by rw[<-hX];simp[World.setCell]
 have ax:∀b,b<w.heap.size->b≠O->b≠lb->X.heap[b]?=w.heap[b]?:=λb hl ac au=>by rw[<-hX];exact(aR ac).trans (cd.block b hl au)
 have T:=(h.lo O (by simp)).2;have d:∀b∈bt I (fs.length+2) aK,b≠O:=λb aT=>by
  rcases r b aT with ac|ac
  .rw[ac];exact Ne.symm d3
  .omega
 have e:=ba.al (ab:=X) λb aT=>by rw[<-hX];exact aR (d b aT)
 have n:∀b,P b->X.heap[b]?=w.heap[b]?:=λb O=>ax b (g b O).1 (g b O).2.2.1 (g b O).2.2.2;have a:∀b,P b->P b\/(B<=b/\b<X.heap.size):=λb O=>.inl O;have aG:∀b∈N::O::lb::(F1++(F2++bj)),P b\/(B<=b/\b<X.heap.size):=λb O=>.inr ⟨(h.lo b O).1,by have:=(h.lo b O).2;omega⟩;have an:=h.i.al (ab:=X) λb O=>ax b (h.lo b (by simp[O])).2 (o b (by simp[O])).2.1 (o b (by simp[O])).2.2;have wC:Own X 68 1 q.HA q.hn q.hc (hx.set k (.slice I (fs.length+2) aK)) [O]:=by
  have ac:Own aU 68 1 q.HA q.hn q.hc hx [O]:=h.h.al λb aT=>cd.block b (by rw[LO.1 aT];exact T) (by rw[LO.1 aT];exact d3);have al:=(List.getElem?_eq_some_iff.1 h.th).1;have bH:k<q.hn:=by rw[h.hl];exact al
  obtain⟨g2,aZ,-,-,-,-,hs⟩:=ac.block ad;obtain rfl:O=g2:=by have:=h.mO.symm.trans aZ;simpa using this
  rw[<-hX];exact hs k _ ad
 refine h.fin ad ax wC (eV.2 ⟨_,_,_,rfl,e.cap,e.sl ?_ (by simp) λb aT=>?_⟩)
 .rw[Lr,Lr];refine D.cI (D.cI (D.bZ a _ _ (D.bY n _ _ h.fr)) (D.bm.2 (gh.2 ⟨_,_,_,_,_,_,rfl,h.i.cap,h.Hp,an.sl (cx _) (by simp) λb O=>aG b (by simp[O]),(h.lk.al n).mono a⟩))) (D.bm.2 ?_);exact D.aL (λb O=>.inr (⟨(c b O).1,by have:=(c b O).2.1;omega⟩:B<=b/\b<X.heap.size)) _ _ (D.aS (λb O=>ax b (c b O).2.1 (c b O).2.2.1 (c b O).2.2.2) _ _ cZ)
 .rcases r b aT with ac|ac
  .rw[ac];exact aG lb (by simp)
  .have:=(h.lo O (by simp));exact .inr ⟨ad,ad⟩
end
section
variable {P:Nat->Prop} {B:Nat} {w ab X:World} {s Q:ai} {k:Nat} {fs:List ak} {f a5:ak} {N:Nat} {q:SV} {O lb lc:Nat} {hx b3:List Value} {IA:L3} {ic:Nat} {S:L3} {aH:Nat} {F1 F2 bj:List Nat}
theorem RO.Hv(h:RO P B w s k fs f N q O lb lc hx b3 IA ic S aH F1 F2 bj){PT:Nat->Prop}{I:L3}{aP aK:Nat}{T:List bV}(hT:Sl w PT I aP (T.map lD))(hn:aP<=aK)(a:∀b,PT b->P b\/(B<=b/\b<w.heap.size/\b≠N))(hX:w.setCell ⟨N,1,none⟩ (.slice I aP aK)=X):
  let ar:SV:=⟨q.GA,q.gn,q.gc,I,aP,aK,q.HA,q.hn,q.hc⟩
  let Q:ai:={s with table:=T}
  ar.Is X (λb=>P b\/(B<=b/\b<X.heap.size)) Q/\aq X N 40 (ar.val Q):=by
 intro ar Q;have H:X.heap.size=w.heap.size:=by rw[<-hX];simp[World.setCell]
 have ap:∀b,(P b\/(B<=b/\b<w.heap.size/\b≠N))->X.heap[b]?=w.heap[b]?:=λb hm=>by
  rw[<-hX];refine aR ?_;rcases hm with hm|hm
  .exact(h.sep.2.2.2.2 b hm).2.1
  .exact hm.2.2
 have an:=h.Ko.al ap;have hm:∀b,(P b\/(B<=b/\b<w.heap.size/\b≠N))->P b\/(B<=b/\b<X.heap.size):=λb O=>O.imp id λO=>⟨O.1,by rw[H];exact O.2.1⟩
 refine⟨⟨⟨an.at_.g.mono hm,(hT.al λb O=>ap b (a b O)).mono λb O=>hm b (a b O),an.at_.h.mono hm⟩,an.gc,hn,an.hc⟩,?_⟩;rw[<-hX];exact h.o.aM 1 _
theorem RO.start(h:RO P B w s k fs f N q O lb lc hx b3 IA ic S aH F1 F2 bj){c0 c1 c2 c3:Value}(cZ:(ew R).rep w y [c0,c1,c2,c3])(c:∀b,y b->B<=b/\b<w.heap.size/\b≠O/\b≠N)
  {aS aU:World} (ao:w.alloc (.cells #[c0,c1,c2,c3] 72)=aS) {I:L3} {aK:Nat}
  (ba:Own aU 68 1 I (q.hn+1) aK (hx++[.slice (some ⟨w.heap.size,0,none⟩) 1 1]) (bt I (q.hn+1) aK)) (J:Fr (λb=>b=O) aS aU) (r:∀b∈bt I (q.hn+1) aK,b=O\/(aS.heap.size<=b/\b<aU.heap.size))
  (hX:aU.setCell ⟨N,2,none⟩ (.slice I (q.hn+1) aK)=X) :
  let ar:SV:=⟨q.GA,q.gn,q.gc,q.TA,q.tn,q.tc,I,q.hn+1,aK⟩
  let Q:ai:={s with threads:=s.threads++[[R]]}
  ar.Is X (λb=>P b\/(B<=b/\b<X.heap.size)) Q/\aq X N 40 (ar.val Q):=by
 intro ar Q;obtain⟨d1,d2,d3,o,g⟩:=h.sep;have dD:aS.heap.size=w.heap.size+1:=by rw[<-ao];simp
 have aN:=aW ao;have v:=aI ao;have bN:=J.size;have H:X.heap.size=aU.heap.size:=by rw[<-hX];simp[World.setCell]
 have cT:=h.lo N (by simp);have dp:=h.lo O (by simp);have a8:=h.lo lb (by simp);have ax:∀b,b<aS.heap.size->b≠N->b≠O->X.heap[b]?=aS.heap[b]?:=λb al bf aY=>by
  rw[<-hX];exact(aR bf).trans (J.block b al aY)
 have m:∀b,b<w.heap.size->b≠N->b≠O->X.heap[b]?=w.heap[b]?:=λb al bf aY=>(ax b ad bf aY).trans (aN.block b al λh=>h);have n:∀b,P b->X.heap[b]?=w.heap[b]?:=λb hm=>m b (g b hm).1 (g b hm).2.1 (g b hm).2.2.1;have i:∀b∈F1++(F2++bj),X.heap[b]?=w.heap[b]?:=λb hm=>m b (h.lo b (List.mem_cons_of_mem _ (List.mem_cons_of_mem _ (List.mem_cons_of_mem _ hm)))).2 (o b hm).1 (o b hm).2.1;have a:∀b,P b->P b\/(B<=b/\b<X.heap.size):=λb hm=>.inl hm;have aG:∀b∈N::O::lb::(F1++(F2++bj)),P b\/(B<=b/\b<X.heap.size):=λb hm=>.inr ⟨(h.lo b hm).1,by have:=(h.lo b hm).2;omega⟩;have aT:aq X w.heap.size 72 #[c0,c1,c2,c3]:=(ax _ ad ad ad).trans v;have cg:(ew R).rep X (λb=>P b\/(B<=b/\b<X.heap.size)) [c0,c1,c2,c3]:=D.aL (λb hm=>.inr (⟨(c b hm).1,by have:=(c b hm).2.1;omega⟩:B<=b/\b<X.heap.size)) _ _ (D.aS (λb hm=>m b (c b hm).2.1 (c b hm).2.2.2 (c b hm).2.2.1) _ _ cZ);have cm:Sl X (λb=>P b\/(B<=b/\b<X.heap.size)) (some ⟨w.heap.size,0,none⟩) 1 ([R].map ew):=⟨rfl,λ_=>⟨w.heap.size,0,[c0,c1,c2,c3],rfl,.inr ⟨ad,ad⟩,by simp only[Lq,LK];exact D.bm.2 cg,λj u hu=>by
  rw[LF,aT.cell];simpa using hu⟩⟩
 have d:∀b∈bt I (q.hn+1) aK,b≠N:=λb hm=>by
  rcases r b hm with ac|ac
  .rw[ac];exact Ne.symm d1
  .omega
 have e:=ba.al (ab:=X) λb hm=>by rw[<-hX];exact aR (d b hm)
 have hl:=h.l.al (ab:=X) λb hm=>by rw[LO.1 hm];exact m lb a8.2 (Ne.symm d2) (Ne.symm d3)
 have an:=h.i.al (ab:=X) λb hm=>i b (by simp[hm]);have cn:hx.length=s.threads.length:=by have:=h.h.row.1;rw[Nat.mul_one] at this;rw[this];exact h.hl
 refine⟨⟨⟨?_,?_,?_⟩,h.g.cap,h.t.cap,e.cap⟩,?_⟩
 .exact(h.g.al λb hm=>i b (by simp[hm])).sl (cx _) (by rw[Lo];exact h.gl.symm) λb hm=>aG b (by simp[hm])
 .exact(h.t.al λb hm=>i b (by simp[hm])).sl (dA _) (by rw[Lo];exact h.tl.symm) λb hm=>aG b (by simp[hm])
 .refine e.sl (l:=(s.threads++[[R]]).map jW) ?_ (by simp[h.hl]) λb hm=>?_
  .rw[Lr];refine D.cI (m5 _ _ cn λj x bi=>?_) (D.bm.2 (eV.2 ⟨_,1,1,rfl,Lk _,cm⟩));by_cases z:j=k
   .subst z;have:=h.th.symm.trans bi;injection this with this;subst this;refine⟨_,h.zu,eV.2 ⟨_,_,_,rfl,h.l.cap,hl.sl ?_ (by simp) λb hm=>aG b (by simp[LO.1 hm])⟩⟩;rw[Lr];exact D.cI (D.bZ a _ _ (D.bY n _ _ h.fr)) (D.bm.2 (gh.2 ⟨_,_,_,_,_,_,rfl,h.i.cap,h.Hp,an.sl (cx _) (by simp) λb hm=>aG b (by simp[hm]),(h.lk.al n).mono a⟩))
   .obtain⟨u,hu,ba⟩:=h.rk j x z bi;exact⟨u,hu,D.aL a _ _ (D.aS n _ _ ba)⟩
  .rcases r b hm with ac|ac
   .rw[ac];exact aG O (by simp)
   .exact .inr ⟨ad,ad⟩
 .have:=(h.o.aj aN).on J d1;rw[<-hX];exact this.aM 2 _
end
theorem fi{P:Nat->Prop}{w Y:World}{B:Nat}{s Q:ai}{q:SV}{M:Nat->Prop}(h:q.Is Y (λk=>P k\/(B<=k/\k<Y.heap.size)) s)(J:Fr M Y Z)(hM:∀k,M k->¬P k/\k<B)(a1:∀k,P k->k<Y.heap.size)(aR:w.heap.size<=B)(aw:Ext w Z)(hs:s=Q):cV P w Q b (.returned (.tuple #[.agg (q.val Q),.bool b])) Z:=by
 subst hs;exact⟨q,rfl,(h.al λk ap=>J.block k (ap.elim (a1 k) λh=>h.2) λhm=>ap.elim (hM k hm).1 λh=>by have:=(hM k hm).2;omega).mono λk ap=>ap.imp id λap=>⟨ad,by have:=J.size;omega⟩,aw⟩
theorem SV.Is.Ho{P:Nat->Prop}{w V:World}{s:ai}{q:SV}(h:q.Is w P s)(a1:∀b,P b->b<w.heap.size)(aw:Ext w V):q.Is V P s:=h.al λb O=>aw.block b (a1 b O) λh=>h
theorem xd{P:Nat->Prop}{w:World}{s:ai}{q:SV}(h:q.Is w P s)(a1:∀b,P b->b<w.heap.size)(aw:Ext w Z):cV P w s b (.returned (.tuple #[.agg (q.val s),.bool b])) Z:=
 ⟨q,rfl,(h.Ho a1 aw).mono λ_ O=>.inl O,aw⟩
theorem RO.I9{P:Nat->Prop}{B:Nat}{w:World}{s:ai}{k:Nat}{fs:List ak}{f:ak}{N:Nat}{q:SV}{O lb lc:Nat}{hx b3:List Value}{IA:L3}{ic:Nat}{S:L3}{aH:Nat}{F1 F2 bj:List Nat}(h:RO P B w s k fs f N q O lb lc hx b3 IA ic S aH F1 F2 bj):Sl w (av w) IA f.ints.length (f.ints.map .i):=
 h.i.sl (cx _) (by simp) λb O=>(h.lo b (by simp[O])).2
namespace Dv
theorem Bp(h:p:=by
 exact Ad
 ):p:=h
theorem hE(h:p:=by
 have ce:=aE hu (aD.ok a1) aD;obtain⟨G,S⟩:=aJ a1 ht;clear hu aD a1 ht;dsimp only[UV.val,SV.val];go_enter func19,ntmps19;go_upto_region 1 with(fail);generalize be:World.alloc _ _=W;have aw:=lC be;have bD:=jw be;have b4:=h1 be;have cB:=jx be;have ah:=cH aw bD b4 cB (ce.1.on aw) (ce.2.1.on aw);have c5:=aw.size;have dw:=cB.lt;obtain⟨a0,aj,af⟩:=bD.two;obtain⟨a7,am,aF⟩:=b4.two;clear be aw bD b4 cB;go_wp2_with(fail);refine(ow u s t W ⟨GA,gn,gc,MA,mn,mc,PA,pn,pc⟩ ⟨bU,bW,bE,TA,tn,tc,HA,hn,hc⟩ ah.2.2.2.2.2 S.o).mono ?_;rintro e aS ⟨rfl,aN⟩;have bx:=ae aN;clear a0 aj af a7 am aF;go_upto_region 2 with(fail);generalize hV:World.alloc _ _=V;have bm:Ext W V:=hV▸aN.alloc _;have dm:=bm.size;have z:=ah.2.2.2.1.aj bm;obtain⟨a7,am,aF⟩:=(ah.2.2.1.aj bm).two;obtain⟨bl,aA,aO⟩:=z.two;have bN:=ag bm z;clear hV bm aN z;go_wp2_with(fail);generalize hX:World.setCell _ _ _=Z;obtain⟨bk,bd,bg⟩:=bw (w:=w) [.slice bU bW bE,.slice TA tn tc,.slice HA hn hc,.int .i64 s.fault] (by rfl) bN.2 (ah.1.trans bN.1) ad hX;exact Bo
 ):p:=h
end Dv
open Dv in
theorem w8(u:ay)(s:ai)(t:Int)(P:Nat->Prop)(w:World)(p:UV)(q:SV)(hu:p.Ok w u)(aD:q.Is w P s)(a1:∀b,P b->b<w.heap.size)(ht:de s t=none) :
  Calls prog 19 #[.agg (p.val u),.agg (q.val s),.int .i64 t] w (cV P w s false):=by
 exact hB
theorem RO.aj{P:Nat->Prop}{B:Nat}{w ab:World}{s:ai}{k:Nat}{fs:List ak}{f:ak}{N:Nat}{q:SV}{O lb lc:Nat}{hx b3:List Value}{IA:L3}{ic:Nat}{S:L3}{aH:Nat}{F1 F2 bj:List Nat}(h:RO P B w s k fs f N q O lb lc hx b3 IA ic S aH F1 F2 bj)(aw:Ext w ab):RO P B ab s k fs f N q O lb lc hx b3 IA ic S aH F1 F2 bj:=by
 have ap:∀b,b<w.heap.size->ab.heap[b]?=w.heap[b]?:=λb O=>aw.block b O λh=>h;have al:∀b∈N::O::lb::(F1++(F2++bj)),ab.heap[b]?=w.heap[b]?:=λb O=>ap b (h.lo b O).2;have aR:=(h.lo N (by simp))
 have n:∀b,P b->ab.heap[b]?=w.heap[b]?:=λb O=>ap b (aD (h.pb b O));refine {th:=h.th,gl:=h.gl,tl:=h.tl,hl:=h.hl,g:=h.g.al λb O=>al b (by simp[O]),t:=h.t.al λb O=>al b (by simp[O]),h:=h.h.al λb O=>al b (by simp[LO.1 O]),mO:=h.mO,rk:=λj cT bi cc=>?_,zu:=h.zu,l:=h.l.al λb O=>al b (by simp[LO.1 O]),fr:=D.bY n _ _ h.fr,lk:=h.lk.al n,Hp:=h.Hp,i:=h.i.al λb O=>al b (by simp[O]),o:=h.o.aj aw,nd:=h.nd,lo:=λb O=>⟨(h.lo b O).1,Ll (h.lo b O).2 aw.size⟩,pb:=h.pb};obtain⟨u,hu,ba⟩:=h.rk j cT bi cc;exact⟨u,hu,D.aS n _ _ ba⟩
namespace Dw
theorem vO(h:p:=by
 rw[bX.o];exact fi (B:=V.heap.size) bu.1 bh.2.drew (λb O=>⟨λhl=>by have:=G.o b hl;omega,ad⟩) (λb O=>by have:=G.o b O;omega) ad bh.1.drew (by rw[eh bZ.2.1,List.set_set];rfl)
 ):p:=h
theorem dE(h:p:=by
 generalize hX:World.setCell _ _ _=Y;have n:=cX.o;rw[hX] at n;have ar:=cO hX;have i:Ext V Y:=Fr.low (M:=λb=>b=I) (Fr.trans (Fr.mono y.2.1 λ_ h=>h.elim) ar) λb O=>ad;have bu:=aE n.is n.o (bN.trans i);have bc:=i.size;clear hX n ar i a7 am aF d0 aL aM e0 a6 aP c0 c1 c2 c3 H flb J cC cq;exact vN
 ):p:=h
theorem AJ(h:p:=by
 clear bM b0 a7 am aF;exact GY
 ):p:=h
theorem sN(h:p:=by
 clear ck ch a2;rcases cD.o with h|h
 all_goals
  first
   | have q1:(x.op == 1)=true:=by simpa using h
   | have q1:(x.op == 1)=false:=by simp;omega
  first
   | have cN:(x.op == 2)=true:=by simpa using h
   | have cN:(x.op == 2)=false:=by simp;omega
  first
   | have df:(x.op == 3)=true:=by simpa using h
   | have df:(x.op == 3)=false:=by simp;omega
  first
   | have dd:(x.op == 4)=true:=by simpa using h
   | have dd:(x.op == 4)=false:=by simp;omega
  first
   | have q5:(x.op == 5)=true:=by simpa using h
   | have q5:(x.op == 5)=false:=by simp;omega
  first
   | have dk:(x.op == 6)=true:=by simpa using h
   | have dk:(x.op == 6)=false:=by simp;omega
  first
   | have q7:(x.op == 7)=true:=by simpa using h
   | have q7:(x.op == 7)=false:=by simp;omega
  first
   | have dF:(x.op == 8)=true:=by simpa using h
   | have dF:(x.op == 8)=false:=by simp;omega
  have T:=ae h;clear h;go_upto_region 12 with(fail);refine eC (λ_=>False) [(0,3),(1,0),(2,3),(3,0),(4,3),(5,3),(6,3),(7,0),(8,2),(9,3),(10,3),(11,3),(12,3),(13,3)] ?_;refine pf ?_;refine ph ?_;refine pf ?_;refine ph ?_
  iterate 3 refine pf ?_
  refine ph ?_;refine ax rfl (λK hK=>?_);go_simp;have aa:Ext X X.drew:=(Fr.refl _ X).drew;have cS:=aQ.2.2.trans aa;have cd:(bp ex).rep X.drew (av X.drew) [.int .i64 eo,.int .i64 en,.string es,.slice EA em ec]:=by
   have:=(dv.on (aQ.2.1.trans aa)).expr;rw[aG.2.1] at this;exact this
  obtain⟨cv,cU⟩:=l.FV aG.1 (ah.2.2.2.2.2.on cS).at_.g (aQ.1.I9.on (Fr.ext aa)) cd;refine(nO ex X.drew bU cG bW f.ints.length bE cr s.globals f.ints _ _ _ _ cv cU).mono ?_;rintro e cK ⟨rfl,b1⟩;have co:Ext X cK:=Fr.aF (Fr.of b1);have cc:=ae (aQ.2.2.trans co);have dr:=b9.o;generalize ev s.globals f.ints ex=R at *;obtain⟨r,z⟩:=R;have S:=ae dr;have aT:=RO.aj aQ.1 co;have y:=aE aT (aQ.2.1.trans co) (aQ.2.2.trans co);have dC:=co.size;clear dr aa cS cd cv cU b1 co a0 aj af a7 am aF d0 aL aM e0 a6 aP c0 c1 c2 c3 H flb J;obtain⟨a7,am,aF⟩:=(ah.2.2.1.aj cc.o).two;obtain⟨d0,aL,aM⟩:=(bJ.aj y.2.1).two;obtain⟨e0,a6,aP⟩:=aT.o.two;obtain⟨bx,bs,flb,J,H,c0,c1,c2,c3,bt⟩:=aT.top;clear aT;refine dP hK ?_;clear hK K
  iterate 5 refine pf ?_
  refine aC ?_;by_cases bv:z=0
  case neg=>
   have cj:(z != 0)=true:=by simpa using bv
   have bX:=ae (S.bad bv);exact AI
  have cj:(z != 0)=false:=by simpa using bv
  have bb:=ae bv;clear bv
 ·
  cases a9:x.c7 with
  | true=>
   have bX:=ae (S.gl bb.o T.o a9);rw[a9] at d0;have cu:=aG.2.2.1 T.o a9;have bK:=aG.2.2.2.2;have aR:=y.1.gl;simp only at aR;have cR:x.target<(cp:Int):=ad;obtain⟨bL,bo,de,cC,⟨bz,cq⟩,cZ,bi,ap⟩:=y.1.c7 (j:=x.target.toNat) (by show x.target.toNat<cp;omega);simp only at bo;subst bo;have cX:=ae (ap r);clear cu bK aR ap a9;go_upto_region 45 with(fail);generalize hX:World.setCell _ _ _=Y;have n:=cX.o;rw[hX] at n;have ar:=cO hX;have i:Ext V Y:=Fr.low (M:=λb=>b=bL) (Fr.trans (Fr.mono y.2.1 λ_ h=>h.elim) ar) λb O=>ad;have bu:=aE n.is n.o (bN.trans i);have bc:=i.size;clear hX n ar i a7 am aF d0 aL aM e0 a6 aP c0 c1 c2 c3 H flb J cC cq;have a3:=ag (ah.2.2.2.1.aj bu.2.2) (ah.1.trans bu.2.2);have dl:=bu.2.2.size;obtain⟨bl,aA,aO⟩:=a3.1.two;obtain⟨e0,a6,aP⟩:=bu.2.1.two;go_wp2_with(fail);generalize hX:World.setCell _ _ _=Z;obtain⟨bk,bd,bg⟩:=bw (w:=w) [.slice (some ⟨bL,0,none⟩) cp a5,.slice ab m L,.slice (some ⟨O,0,none⟩) ct aZ,.int .i64 s.fault] (by rfl) a3.1 a3.2 ad hX;have bh:=ag bd bg;clear hX bd bg bl aA aO e0 a6 aP;obtain⟨bl,aA,aO⟩:=bk.two;refine LU (v:=.tuple #[.agg #[.slice (some ⟨bL,0,none⟩) cp a5,.slice ab m L,.slice (some ⟨O,0,none⟩) ct aZ,.int .i64 s.fault],.bool true]) (by simp[results,Tryz.results19,go_sem,bl]) rfl ?_
   exact DH
  | false=>
   have bX:=ae (S.lo bb.o T.o a9);rw[a9] at d0;have al:=aG.2.2.2.1 T.o a9;have bB:x.target<((next f).ints.length:Int):=al;obtain⟨I,br,de,cC,⟨bz,cq⟩,cZ,bi,hints⟩:=y.1.ints (j:=x.target.toNat) (by show x.target.toNat<f.ints.length;omega);subst br;have cX:=ae (hints r);clear hints a9;go_upto_region 20 with(fail);exact BL
 ·
  by_cases ba:r=0
  .have Fs:(r == 0)=true:=by simpa using ba
   have bX:=ae (S.bz bb.o T.o ba);clear ba;go_upto_region 45 with(fail);generalize hX:World.setCell _ _ _=Y;have n:=y.1.pc x.target;rw[hX] at n;have ar:=cO hX;have i:Ext V Y:=Fr.low (M:=λb=>b=lb) (Fr.trans (Fr.mono y.2.1 λ_ h=>h.elim) ar) λb O=>ad;have bu:=aE n.is n.o (bN.trans i);have bc:=i.size;clear hX n ar i a7 am aF d0 aL aM e0 a6 aP c0 c1 c2 c3 H flb J;exact GS
  .have Fs:(r == 0)=false:=by simpa using ba
   have bX:=ae (S.bn bb.o T.o ba);clear ba;have bu:=aE y.1.is y.1.o y.2.2;clear e0 a6 aP c0 c1 c2 c3 H flb J;have a3:=ag (ah.2.2.2.1.aj bu.2.2) (ah.1.trans bu.2.2);have dl:=bu.2.2.size;obtain⟨bl,aA,aO⟩:=a3.1.two;obtain⟨e0,a6,aP⟩:=bu.2.1.two;go_wp2_with(fail);generalize hX:World.setCell _ _ _=Z;obtain⟨bk,bd,bg⟩:=bw (w:=w) [.slice bF cp a5,.slice ab m L,.slice (some ⟨O,0,none⟩) ct aZ,.int .i64 s.fault] (by rfl) a3.1 a3.2 ad hX;have bh:=ag bd bg;clear hX bd bg bl aA aO e0 a6 aP;obtain⟨bl,aA,aO⟩:=bk.two;refine LU (v:=.tuple #[.agg #[.slice bF cp a5,.slice ab m L,.slice (some ⟨O,0,none⟩) ct aZ,.int .i64 s.fault],.bool true]) (by simp[results,Tryz.results19,go_sem,bl]) rfl ?_;exact DH
 ):p:=h
theorem sP(h:p:=by
 exact sM
 ):p:=h
theorem Bb(h:p:=by
 have b9:=ae (Kl (u:=u) (s:=s) (t:=t) (f:=f) hex cA);have aX:=h.hS.c7;have aG:=cJ aK hex cF aV aX;clear an hlen aK hex cF aV aX;exact sO
 ):p:=h
theorem sR(h:p:=by
 exact Ba
 ):p:=h
end Dw
open Dw in
theorem qT(u:ay)(s:ai)(t:Int)(f:ak)(cn:cM)(x:az)(N:Nat)(P:Nat->Prop)(w:World)(p:UV)(q:SV)(h:jv u s t f cn x N)(hN:N<=100000)(cA:x.op=1\/x.op=6)(hu:p.Ok w u)(aD:q.Is w P s)(a1:∀b,P b->b<w.heap.size) :
  Calls prog 19 #[.agg (p.val u),.agg (q.val s),.int .i64 t] w (cV P w (bI u s t f x).1 (bI u s t f x).2):=by
 exact sQ
end Go.Proofs.YtkhnkojkplbioaaGreat

/- Part 25 of the proof. No condition of its own. -/
import Derived.Test.YtflecliffjbleaaGreatS24
namespace Go.Proofs.YtflecliffjbleaaGreat
open Go.RowKit Go.Proofs.Tryz
set_option maxRecDepth 1000000
set_option maxHeartbeats 25600000
set_option linter.unusedVariables false
variable{b:Bool}{y:Nat->Prop}{p:Prop}{Z:World}{R:an}
theorem m8{α:Type}{enc:α->D}{w:World}{P:Nat->Prop}:∀(l:List α) (xs:List Value),xs.length=l.length->(∀(j:Nat) (x:α),l[j]?=some x->∃u,xs[j]?=some u/\(enc x).rep w P [u])->D.aO w P (l.map enc) xs
 | [],[],_,_=>aQ.2 rfl
 | [],_::_,h,_=>by simp at h
 | _::_,[],h,_=>by simp at h
 | a::l,v::xs,h,hp=>by
  obtain⟨u,hu,a9⟩:=hp 0 a rfl;simp only[List.getElem?_cons_zero,Mb] at hu;subst hu;exact dG.2 ⟨[v],xs,rfl,a9,m8 l xs (by simpa using h) λj x hx=>by simpa using hp (j+1) x (by simpa using hx)⟩
section
variable {P:Nat->Prop} {B:Nat} {w ab:World} {s aq:ai} {k:Nat} {fs:List an} {f bg:an} {N:Nat} {q:SV} {O lb lc:Nat} {hx cG:List Value} {IA:Mk} {ic:Nat} {bB:Mk} {aE:Nat} {F1 F2 bc:List Nat}
theorem RO.KE(h:RO P B w s k fs f N q O lb lc hx cG IA ic bB aE F1 F2 bc):q.Is w (λb=>P b\/(B<=b/\b<w.heap.size/\b≠N)) s:=by
 have bm:=h.lo;have az:∀b∈O::lb::(F1++(F2++bc)),P b\/(B<=b/\b<w.heap.size/\b≠N):=λb hm=>.inr ⟨(bm b (List.mem_cons_of_mem _ hm)).1,(bm b (List.mem_cons_of_mem _ hm)).2,λhe=>(List.nodup_cons.1 h.nd).1 (he▸hm)⟩;have a:∀b,P b->P b\/(B<=b/\b<w.heap.size/\b≠N):=λb O=>.inl O;refine⟨⟨?_,?_,?_⟩,h.g.cap,h.t.cap,h.h.cap⟩
 .exact h.g.sl (cI _) (by rw[LG];exact h.gl.symm) λb O=>az b (by simp[O])
 .exact h.t.sl (dS _) (by rw[LG];exact h.tl.symm) λb O=>az b (by simp[O])
 .have b3:hx.length=s.threads.length:=by have:=h.h.row.1;rw[Nat.mul_one] at this;rw[this];exact h.hl
  refine h.h.sl (m8 _ _ b3 λj x bi=>?_) (by rw[LG];exact h.hl.symm) λb O=>az b (by simp[Ma.1 O]);by_cases z:j=k
  .subst z;have:=h.th.symm.trans bi;injection this with this;subst this;refine⟨_,h.zG,fE.2 ⟨_,_,_,rfl,h.l.cap,h.l.sl ?_ (by simp) λb O=>az b (by simp[Ma.1 O])⟩⟩;rw[LJ];exact D.cK (D.bV a _ _ h.fr) (D.bw.2 (gu.2 ⟨_,_,_,_,_,_,rfl,h.i.cap,h.Hx,h.i.sl (cI _) (by simp) λb O=>az b (by simp[O]),h.lk.mono a⟩))
  .obtain⟨u,hu,a9⟩:=h.rj j x z bi;exact⟨u,hu,D.aK a _ _ a9⟩
theorem RO.is(h:RO P B w s k fs f N q O lb lc hx cG IA ic bB aE F1 F2 bc):q.Is w (λb=>P b\/(B<=b/\b<w.heap.size)) s:=h.KE.mono λb O=>O.imp id λO=>⟨O.1,O.2.1⟩
theorem RO.JW(h:RO P B w s k fs f N q O lb lc hx cG IA ic bB aE F1 F2 bc){g:Nat}(aY:g∈lb::(F1++(F2++bc)))(U:ab.heap.size=w.heap.size)(aj:∀b,b≠g->ab.heap[b]?=w.heap[b]?)
  (c:∀j,j≠k->aq.threads[j]?=s.threads[j]?) (aK:aq.threads[k]?=some (fs++[bg])) (cu:aq.globals.length=s.globals.length) (cw:aq.table.length=s.table.length) (cm:aq.threads.length=s.threads.length) (E:aq.fault=s.fault) (cr:bg.ax=f.ax)
  (hG:Own ab 3 1 q.GA q.gn q.gc (aq.globals.map dq) F1) (hT:Own ab 95 2 q.TA q.tn q.tc (aq.table.flatMap cb) F2)
  (bw:Own ab 99 4 (some ⟨lb,0,none⟩) (fs.length+1) lc (cG++[.int .i64 bg.proc,.int .i64 bg.pc,.slice IA bg.ints.length ic,.slice bB bg.ax.length aE]) [lb])
  (hI:Own ab 3 1 IA bg.ints.length ic (bg.ints.map dq) bc):RO P B ab aq k fs bg N q O lb lc hx cG IA ic bB aE F1 F2 bc:=by
 have n1:=List.nodup_cons.1 h.nd;have n2:=List.nodup_cons.1 n1.2;have am:N≠g:=λhe=>n1.1 (by rw[he];exact List.mem_cons_of_mem _ aY);have a:O≠g:=λhe=>n2.1 (by rw[he];exact aY);have dt:B<=g:=(h.lo g (by simp only[LS] at aY ⊢;exact .inr (.inr aY))).1;have n:∀b,P b->ab.heap[b]?=w.heap[b]?:=λb O=>aj b (aB (h.pb b O));refine {th:=aK,gl:=h.gl.trans cu.symm,tl:=h.tl.trans cw.symm,hl:=h.hl.trans cm.symm,g:=hG,t:=hT,h:=h.h.ak λb O=>aj b (by rw[Ma.1 O];exact a),mW:=h.mW,rj:=λj cP bi b1=>?_,zG:=h.zG,l:=bw,fr:=D.bU n _ _ h.fr,lk:=by rw[cr];exact h.lk.ak n,Hx:=by rw[cr];exact h.Hx,i:=hI,o:=?_,nd:=h.nd,lo:=λb O=>by rw[U];exact h.lo b O,pb:=h.pb}
 .obtain⟨u,hu,a9⟩:=h.rj j cP bi ((c j bi).symm.trans b1);exact⟨u,hu,D.aP n _ _ a9⟩
 .have:=(aj N am).trans h.o;unfold SV.val at this ⊢
  rwa [E]
namespace Dt
theorem vX(h:p:=by
 obtain⟨g,bO,-,-,-,-,hs⟩:=h.l.block ad;obtain rfl:lb=g:=by simpa using bO
 have L:=hs (fs.length*4+1) (.int .i64 v) ad;rw[List.set_append_right _ _ ad,a,Nat.add_sub_cancel_left] at L;exact h.JW (g:=lb) (by simp) (by simp[World.setCell]) (λb O=>aR O) (λj bi=>by simp[Ne.symm bi]) (by simp[ap]) rfl rfl (by simp) rfl rfl
  (h.g.ak λb O=>aR (hn b (by simp[O]))) (h.t.ak λb O=>aR (hn b (by simp[O]))) L (h.i.ak λb O=>aR (hn b (by simp[O])))
 ):p:=h
end Dt
open Dt in
theorem RO.pc(h:RO P B w s k fs f N q O lb lc hx cG IA ic bB aE F1 F2 bc)(v:Int) :
  RO P B (w.setCell ⟨lb,fs.length*4+1,none⟩ (.int .i64 v)) {s with threads:=s.threads.set k (fs++[{f with pc:=v}])} k fs {f with pc:=v} N q O lb lc hx cG IA ic bB aE F1 F2 bc:=by
 have ap:=(List.getElem?_eq_some_iff.1 h.th).1;have n1:=List.nodup_cons.1 (List.nodup_cons.1 (List.nodup_cons.1 h.nd).2).2;have hn:∀b∈F1++(F2++bc),b≠lb:=λb O he=>n1.1 (he▸O);exact vW
namespace Du
theorem vX(h:p:=by
 have a7:k<q.hn:=by rw[h.hl];exact ap
 obtain⟨g,bO,-,hl,hc,J,-⟩:=h.l.block ad;obtain rfl:lb=g:=by simpa using bO
 obtain⟨g2,aX,-,ct,cf,ay,-⟩:=h.h.block ad;obtain rfl:O=g2:=by have:=h.mW.symm.trans aX;simpa using this
 refine⟨hl,ct,J,ay,cf _ _ h.zG,hc _ _ ?_,hc _ _ ?_,hc _ _ ?_,hc _ _ ?_,a7⟩<;>rw[<-a,List.getElem?_append_right ad]<;>simp
 ):p:=h
end Du
open Du in
theorem RO.top(h:RO P B w s k fs f N q O lb lc hx cG IA ic bB aE F1 F2 bc):lb<w.heap.size/\O<w.heap.size/\(∀j,w.frozen? ⟨lb,j,none⟩=false)/\(∀j,w.frozen? ⟨O,j,none⟩=false)/\w.cell? ⟨O,k,none⟩=some (.slice (some ⟨lb,0,none⟩) (fs.length+1) lc)/\w.cell? ⟨lb,fs.length*4,none⟩=some (.int .i64 f.proc)/\w.cell? ⟨lb,fs.length*4+1,none⟩=some (.int .i64 f.pc)/\
  w.cell? ⟨lb,fs.length*4+2,none⟩=some (.slice IA f.ints.length ic)/\w.cell? ⟨lb,fs.length*4+3,none⟩=some (.slice bB f.ax.length aE)/\k<q.hn:=by
 have ap:=(List.getElem?_eq_some_iff.1 h.th).1;exact vW
theorem RO.ints(h:RO P B w s k fs f N q O lb lc hx cG IA ic bB aE F1 F2 bc){j:Nat}(bi:j<f.ints.length):∃T,IA=some ⟨T,0,none⟩/\T<w.heap.size/\w.frozen? ⟨T,j,none⟩=false/\(∃u,w.cell? ⟨T,j,none⟩=some u)/\T≠N/\B<=T/\
  ∀v,RO P B (w.setCell ⟨T,j,none⟩ (.int .i64 v)) {s with threads:=s.threads.set k (fs++[{f with ints:=f.ints.set j v}])} k fs {f with ints:=f.ints.set j v} N q O lb lc hx cG IA ic bB aE F1 F2 bc:=by
 have ap:=(List.getElem?_eq_some_iff.1 h.th).1;obtain⟨T,dj,rfl,cE,hc,J,hs⟩:=h.i.block ad;have hm:T∈N::O::lb::(F1++(F2++[T])):=by simp
 have n1:=List.nodup_cons.1 h.nd;have hn:∀b∈lb::(F1++F2),b≠T:=by
  have:=eJ (A:=lb::(F1++F2)) (B:=[]) (x:=T) (by simpa[LQ] using (List.nodup_cons.1 n1.2).2);simpa using this
 refine⟨T,dj,cE,J j,⟨_,hc j (dq f.ints[j]) (by simp[bi])⟩,λhe=>n1.1 (by rw[he];simp),(h.lo T hm).1,λv=>?_⟩;have L:=hs j (.int .i64 v) ad;refine h.JW (g:=T) (by simp) (by simp[World.setCell]) (λb O=>aR O) (λj bi=>by simp[Ne.symm bi]) (by simp[ap]) rfl rfl (by simp) rfl rfl
  (h.g.ak λb O=>aR (hn b (by simp[O]))) (h.t.ak λb O=>aR (hn b (by simp[O]))) ?_ ?_
 .simp only[List.length_set];exact h.l.ak λb O=>aR (hn b (by simp[Ma.1 O]))
 .simp only[List.length_set];rw[qs];exact L
theorem RO.du(h:RO P B w s k fs f N q O lb lc hx cG IA ic bB aE F1 F2 bc){j:Nat}(bi:j<q.gn):∃bj,q.GA=some ⟨bj,0,none⟩/\bj<w.heap.size/\w.frozen? ⟨bj,j,none⟩=false/\(∃u,w.cell? ⟨bj,j,none⟩=some u)/\bj≠N/\B<=bj/\
  ∀v,RO P B (w.setCell ⟨bj,j,none⟩ (.int .i64 v)) {s with globals:=s.globals.set j v} k fs f N q O lb lc hx cG IA ic bB aE F1 F2 bc:=by
 obtain⟨bj,y,rfl,cu,hc,J,hs⟩:=h.g.block ad;have hm:bj∈N::O::lb::([bj]++(F2++bc)):=by simp
 have n1:=List.nodup_cons.1 h.nd;have hn:∀b∈lb::(F2++bc),b≠bj:=by
  have:=eJ (A:=[lb]) (B:=F2++bc) (x:=bj) (by simpa using (List.nodup_cons.1 n1.2).2);simpa using this
 have a1:j<s.globals.length:=by rw[<-h.gl];exact bi
 refine⟨bj,y,cu,J j,⟨_,hc j (dq s.globals[j]) (by simp[a1])⟩,λhe=>n1.1 (by rw[he];simp),(h.lo bj hm).1,λv=>?_⟩;have L:=hs j (.int .i64 v) ad;rw[<-show (.int .i64 v:Value)=.int .i64 v from rfl] at L;refine h.JW (g:=bj) (by simp) (by simp[World.setCell]) (λb O=>aR O) (λ_ _=>rfl) h.th (by simp) rfl rfl rfl rfl
  ?_ (h.t.ak λb O=>aR (hn b (by simp[O]))) (h.l.ak λb O=>aR (hn b (by simp[Ma.1 O]))) (h.i.ak λb O=>aR (hn b (by simp[O])))
 show Own _ 3 1 q.GA q.gn q.gc ((s.globals.set j v).map dq) [bj]
 rw[qs];exact L
end
section
variable {P:Nat->Prop} {B:Nat} {w ab X:World} {s aq:ai} {k:Nat} {fs:List an} {f bg:an} {N:Nat} {q:SV} {O lb lc:Nat} {hx cG:List Value} {IA:Mk} {ic:Nat} {bB:Mk} {aE:Nat} {F1 F2 bc:List Nat}
theorem RO.sep(h:RO P B w s k fs f N q O lb lc hx cG IA ic bB aE F1 F2 bc):N≠O/\N≠lb/\O≠lb/\(∀b∈F1++(F2++bc),b≠N/\b≠O/\b≠lb)/\∀b,P b->b<w.heap.size/\b≠N/\b≠O/\b≠lb:=by
 have n1:=List.nodup_cons.1 h.nd;have n2:=List.nodup_cons.1 n1.2;have n3:=List.nodup_cons.1 n2.2;refine⟨λhe=>n1.1 (by rw[he];simp),λhe=>n1.1 (by rw[he];simp),λhe=>n2.1 (by rw[he];simp),λb hm=>⟨λhe=>n1.1 (he▸?_),λhe=>n2.1 (he▸?_),λhe=>n3.1 (he▸hm)⟩,λb hm=>?_⟩
 .exact List.mem_cons_of_mem _ (List.mem_cons_of_mem _ hm)
 .exact List.mem_cons_of_mem _ hm
 .have ac:=h.pb b hm;have ax:=h.lo N (by simp);have a1:=h.lo O (by simp);have aU:=h.lo lb (by simp);omega
theorem RO.fin(h:RO P B w s k fs f N q O lb lc hx cG IA ic bB aE F1 F2 bc)(U:w.heap.size<=X.heap.size)(aj:∀b,b<w.heap.size->b≠O->b≠lb->X.heap[b]?=w.heap[b]?){T:List an}{v:Value}
  (wB:Own X 49 1 q.HA q.hn q.hc (hx.set k v) [O]) (bG:(mS T).rep X (λb=>P b\/(B<=b/\b<X.heap.size)) [v]) :
  q.Is X (λb=>P b\/(B<=b/\b<X.heap.size)) {s with threads:=s.threads.set k T}/\ao X N 30 (q.val s):=by
 obtain⟨d1,d2,d3,o,g⟩:=h.sep;have bm:=h.lo;have az:∀b∈N::O::lb::(F1++(F2++bc)),P b\/(B<=b/\b<X.heap.size):=λb O=>.inr ⟨(bm b O).1,by have:=(bm b O).2;omega⟩;have i:∀b∈F1++(F2++bc),X.heap[b]?=w.heap[b]?:=λb O=>aj b (bm b (List.mem_cons_of_mem _ (List.mem_cons_of_mem _ (List.mem_cons_of_mem _ O)))).2 (o b O).2.1 (o b O).2.2;have n:∀b,P b->X.heap[b]?=w.heap[b]?:=λb O=>aj b (g b O).1 (g b O).2.2.1 (g b O).2.2.2;have a:∀b,P b->P b\/(B<=b/\b<X.heap.size):=λb O=>.inl O;have b3:hx.length=s.threads.length:=by have:=h.h.row.1;rw[Nat.mul_one] at this;rw[this];exact h.hl
 have ap:=(List.getElem?_eq_some_iff.1 h.th).1;refine⟨⟨⟨?_,?_,?_⟩,h.g.cap,h.t.cap,h.h.cap⟩,(aj N (bm N (by simp)).2 d1 d2).trans h.o⟩
 .exact(h.g.ak λb O=>i b (by simp[O])).sl (cI _) (by rw[LG];exact h.gl.symm) λb O=>az b (by simp[O])
 .exact(h.t.ak λb O=>i b (by simp[O])).sl (dS _) (by rw[LG];exact h.tl.symm) λb O=>az b (by simp[O])
 .refine wB.sl (m8 _ _ (by simpa using b3) λj x bi=>?_) (by simp only[LG,List.length_set];exact h.hl.symm) λb O=>az b (by simp[Ma.1 O]);by_cases z:j=k
  .subst z;rw[List.getElem?_set_self ap] at bi;injection bi with bi;subst bi;exact⟨v,List.getElem?_set_self ad,bG⟩
  .rw[List.getElem?_set_ne (Ne.symm z)] at bi;obtain⟨u,hu,a9⟩:=h.rj j x z bi;exact⟨u,by rw[List.getElem?_set_ne (Ne.symm z)];exact hu,D.aK a _ _ (D.aP n _ _ a9)⟩
theorem RO.wB(h:RO P B w s k fs f N q O lb lc hx cG IA ic bB aE F1 F2 bc)(v:Value):Own (w.setCell ⟨O,k,none⟩ v) 49 1 q.HA q.hn q.hc (hx.set k v) [O]:=by
 have ap:=(List.getElem?_eq_some_iff.1 h.th).1;have a7:k<q.hn:=by rw[h.hl];exact ap
 obtain⟨g2,aX,-,-,-,-,hs⟩:=h.h.block ad;obtain rfl:O=g2:=by have:=h.mW.symm.trans aX;simpa using this
 exact hs k v ad
namespace Dv
theorem vX(h:p:=by
 have hc:=h.l.cap;have hl:=(h.l.shorter (m:=fs.length) ad ad).ak (ab:=X) λb O=>aC b (by rw[Ma.1 O];exact Ne.symm d3);rw[List.take_append_of_le_length ad,LK ad] at hl;refine h.fin ad (λb _ ac _=>aC b ac) (by rw[<-hX];exact h.wB _) (fE.2 ⟨_,fs.length,lc,rfl,ad,hl.sl (D.bV (λb O=>.inl O) _ _ (D.bU (λb O=>aC b (g b O).2.2.1) _ _ h.fr)) (by simp) λb a4=>.inr ?_⟩);rw[Ma.1 a4,cx];exact h.lo lb (by simp)
 ):p:=h
end Dv
open Dv in
theorem RO.drop(h:RO P B w s k fs f N q O lb lc hx cG IA ic bB aE F1 F2 bc)(hX:w.setCell ⟨O,k,none⟩ (.slice (some ⟨lb,0,none⟩) fs.length lc)=X) :
  q.Is X (λb=>P b\/(B<=b/\b<X.heap.size)) {s with threads:=s.threads.set k fs}/\ao X N 30 (q.val s):=by
 obtain⟨d1,d2,d3,o,g⟩:=h.sep;have cx:X.heap.size=w.heap.size:=by rw[<-hX];simp[World.setCell]
 have aC:∀b,b≠O->X.heap[b]?=w.heap[b]?:=λb O=>by rw[<-hX];exact aR O
 exact vW
theorem RO.push(h:RO P B w s k fs f N q O lb lc hx cG IA ic bB aE F1 F2 bc){cs:List Value}(bC:(gJ R).rep w y cs)(c:∀b,y b->B<=b/\b<w.heap.size/\b≠O/\b≠lb)
  {I:Mk} {aD:Nat} {aW:World} (a9:Own aW 99 4 I (fs.length+2) aD (cG++[.int .i64 f.proc,.int .i64 f.pc,.slice IA f.ints.length ic,.slice bB f.ax.length aE]++cs) (bx I (fs.length+2) aD))
  (b3:Fr (λb=>b=lb) w aW) (r:∀b∈bx I (fs.length+2) aD,b=lb\/(w.heap.size<=b/\b<aW.heap.size)) (hX:aW.setCell ⟨O,k,none⟩ (.slice I (fs.length+2) aD)=X) :
  q.Is X (λb=>P b\/(B<=b/\b<X.heap.size)) {s with threads:=s.threads.set k (fs++[f]++[R])}/\ao X N 30 (q.val s):=by
 obtain⟨d1,d2,d3,o,g⟩:=h.sep;have bP:=b3.size;have cx:X.heap.size=aW.heap.size:=by rw[<-hX];simp[World.setCell]
 have aC:∀b,b<w.heap.size->b≠O->b≠lb->X.heap[b]?=w.heap[b]?:=λb hl ac ax=>by rw[<-hX];exact(aR ac).trans (b3.block b hl ax)
 have T:=(h.lo O (by simp)).2;have d:∀b∈bx I (fs.length+2) aD,b≠O:=λb a4=>by
  rcases r b a4 with ac|ac
  .rw[ac];exact Ne.symm d3
  .omega
 have e:=a9.ak (ab:=X) λb a4=>by rw[<-hX];exact aR (d b a4)
 have n:∀b,P b->X.heap[b]?=w.heap[b]?:=λb O=>aC b (g b O).1 (g b O).2.2.1 (g b O).2.2.2;have a:∀b,P b->P b\/(B<=b/\b<X.heap.size):=λb O=>.inl O;have az:∀b∈N::O::lb::(F1++(F2++bc)),P b\/(B<=b/\b<X.heap.size):=λb O=>.inr ⟨(h.lo b O).1,by have:=(h.lo b O).2;omega⟩;have al:=h.i.ak (ab:=X) λb O=>aC b (h.lo b (by simp[O])).2 (o b (by simp[O])).2.1 (o b (by simp[O])).2.2;have wB:Own X 49 1 q.HA q.hn q.hc (hx.set k (.slice I (fs.length+2) aD)) [O]:=by
  have ac:Own aW 49 1 q.HA q.hn q.hc hx [O]:=h.h.ak λb a4=>b3.block b (by rw[Ma.1 a4];exact T) (by rw[Ma.1 a4];exact d3);have ap:=(List.getElem?_eq_some_iff.1 h.th).1;have a7:k<q.hn:=by rw[h.hl];exact ap
  obtain⟨g2,aX,-,-,-,-,hs⟩:=ac.block ad;obtain rfl:O=g2:=by have:=h.mW.symm.trans aX;simpa using this
  rw[<-hX];exact hs k _ ad
 refine h.fin ad aC wB (fE.2 ⟨_,_,_,rfl,e.cap,e.sl ?_ (by simp) λb a4=>?_⟩)
 .rw[LJ,LJ];refine D.cK (D.cK (D.bV a _ _ (D.bU n _ _ h.fr)) (D.bw.2 (gu.2 ⟨_,_,_,_,_,_,rfl,h.i.cap,h.Hx,al.sl (cI _) (by simp) λb O=>az b (by simp[O]),(h.lk.ak n).mono a⟩))) (D.bw.2 ?_);exact D.aK (λb O=>.inr (⟨(c b O).1,by have:=(c b O).2.1;omega⟩:B<=b/\b<X.heap.size)) _ _ (D.aP (λb O=>aC b (c b O).2.1 (c b O).2.2.1 (c b O).2.2.2) _ _ bC)
 .rcases r b a4 with ac|ac
  .rw[ac];exact az lb (by simp)
  .have:=(h.lo O (by simp));exact .inr ⟨ad,ad⟩
end
section
variable {P:Nat->Prop} {B:Nat} {w ab X:World} {s aq:ai} {k:Nat} {fs:List an} {f bg:an} {N:Nat} {q:SV} {O lb lc:Nat} {hx cG:List Value} {IA:Mk} {ic:Nat} {bB:Mk} {aE:Nat} {F1 F2 bc:List Nat}
theorem RO.IS(h:RO P B w s k fs f N q O lb lc hx cG IA ic bB aE F1 F2 bc){PT:Nat->Prop}{I:Mk}{aQ aD:Nat}{T:List dc}(hT:Sl w PT I aQ (T.map mf))(hn:aQ<=aD)(a:∀b,PT b->P b\/(B<=b/\b<w.heap.size/\b≠N))(hX:w.setCell ⟨N,1,none⟩ (.slice I aQ aD)=X):
  let ar:SV:=⟨q.GA,q.gn,q.gc,I,aQ,aD,q.HA,q.hn,q.hc⟩
  let aq:ai:={s with table:=T}
  ar.Is X (λb=>P b\/(B<=b/\b<X.heap.size)) aq/\ao X N 30 (ar.val aq):=by
 intro ar aq;have cx:X.heap.size=w.heap.size:=by rw[<-hX];simp[World.setCell]
 have aj:∀b,(P b\/(B<=b/\b<w.heap.size/\b≠N))->X.heap[b]?=w.heap[b]?:=λb hm=>by
  rw[<-hX];refine aR ?_;rcases hm with hm|hm
  .exact(h.sep.2.2.2.2 b hm).2.1
  .exact hm.2.2
 have al:=h.KE.ak aj;have hm:∀b,(P b\/(B<=b/\b<w.heap.size/\b≠N))->P b\/(B<=b/\b<X.heap.size):=λb O=>O.imp id λO=>⟨O.1,by rw[cx];exact O.2.1⟩
 refine⟨⟨⟨al.at_.g.mono hm,(hT.ak λb O=>aj b (a b O)).mono λb O=>hm b (a b O),al.at_.h.mono hm⟩,al.gc,hn,al.hc⟩,?_⟩;rw[<-hX];exact h.o.aJ 1 _
theorem RO.start(h:RO P B w s k fs f N q O lb lc hx cG IA ic bB aE F1 F2 bc){c0 c1 c2 c3:Value}(bC:(gJ R).rep w y [c0,c1,c2,c3])(c:∀b,y b->B<=b/\b<w.heap.size/\b≠O/\b≠N)
  {aP aW:World} (aG:w.alloc (.cells #[c0,c1,c2,c3] 99)=aP) {I:Mk} {aD:Nat}
  (a9:Own aW 49 1 I (q.hn+1) aD (hx++[.slice (some ⟨w.heap.size,0,none⟩) 1 1]) (bx I (q.hn+1) aD)) (J:Fr (λb=>b=O) aP aW) (r:∀b∈bx I (q.hn+1) aD,b=O\/(aP.heap.size<=b/\b<aW.heap.size))
  (hX:aW.setCell ⟨N,2,none⟩ (.slice I (q.hn+1) aD)=X) :
  let ar:SV:=⟨q.GA,q.gn,q.gc,q.TA,q.tn,q.tc,I,q.hn+1,aD⟩
  let aq:ai:={s with threads:=s.threads++[[R]]}
  ar.Is X (λb=>P b\/(B<=b/\b<X.heap.size)) aq/\ao X N 30 (ar.val aq):=by
 intro ar aq;obtain⟨d1,d2,d3,o,g⟩:=h.sep;have dx:aP.heap.size=w.heap.size+1:=by rw[<-aG];simp
 have aL:=aZ aG;have v:=aN aG;have bP:=J.size;have cx:X.heap.size=aW.heap.size:=by rw[<-hX];simp[World.setCell]
 have cW:=h.lo N (by simp);have dr:=h.lo O (by simp);have bq:=h.lo lb (by simp);have aC:∀b,b<aP.heap.size->b≠N->b≠O->X.heap[b]?=aP.heap[b]?:=λb ap bl a1=>by
  rw[<-hX];exact(aR bl).trans (J.block b ap a1)
 have m:∀b,b<w.heap.size->b≠N->b≠O->X.heap[b]?=w.heap[b]?:=λb ap bl a1=>(aC b ad bl a1).trans (aL.block b ap λh=>h);have n:∀b,P b->X.heap[b]?=w.heap[b]?:=λb hm=>m b (g b hm).1 (g b hm).2.1 (g b hm).2.2.1;have i:∀b∈F1++(F2++bc),X.heap[b]?=w.heap[b]?:=λb hm=>m b (h.lo b (List.mem_cons_of_mem _ (List.mem_cons_of_mem _ (List.mem_cons_of_mem _ hm)))).2 (o b hm).1 (o b hm).2.1;have a:∀b,P b->P b\/(B<=b/\b<X.heap.size):=λb hm=>.inl hm;have az:∀b∈N::O::lb::(F1++(F2++bc)),P b\/(B<=b/\b<X.heap.size):=λb hm=>.inr ⟨(h.lo b hm).1,by have:=(h.lo b hm).2;omega⟩;have aY:ao X w.heap.size 99 #[c0,c1,c2,c3]:=(aC _ ad ad ad).trans v;have cr:(gJ R).rep X (λb=>P b\/(B<=b/\b<X.heap.size)) [c0,c1,c2,c3]:=D.aK (λb hm=>.inr (⟨(c b hm).1,by have:=(c b hm).2.1;omega⟩:B<=b/\b<X.heap.size)) _ _ (D.aP (λb hm=>m b (c b hm).2.1 (c b hm).2.2.2 (c b hm).2.2.1) _ _ bC);have b0:Sl X (λb=>P b\/(B<=b/\b<X.heap.size)) (some ⟨w.heap.size,0,none⟩) 1 ([R].map gJ):=⟨rfl,λ_=>⟨w.heap.size,0,[c0,c1,c2,c3],rfl,.inr ⟨ad,ad⟩,by simp only[LI,L4];exact D.bw.2 cr,λj u hu=>by
  rw[LW,aY.cell];simpa using hu⟩⟩
 have d:∀b∈bx I (q.hn+1) aD,b≠N:=λb hm=>by
  rcases r b hm with ac|ac
  .rw[ac];exact Ne.symm d1
  .omega
 have e:=a9.ak (ab:=X) λb hm=>by rw[<-hX];exact aR (d b hm)
 have hl:=h.l.ak (ab:=X) λb hm=>by rw[Ma.1 hm];exact m lb bq.2 (Ne.symm d2) (Ne.symm d3)
 have al:=h.i.ak (ab:=X) λb hm=>i b (by simp[hm]);have b3:hx.length=s.threads.length:=by have:=h.h.row.1;rw[Nat.mul_one] at this;rw[this];exact h.hl
 refine⟨⟨⟨?_,?_,?_⟩,h.g.cap,h.t.cap,e.cap⟩,?_⟩
 .exact(h.g.ak λb hm=>i b (by simp[hm])).sl (cI _) (by rw[LG];exact h.gl.symm) λb hm=>az b (by simp[hm])
 .exact(h.t.ak λb hm=>i b (by simp[hm])).sl (dS _) (by rw[LG];exact h.tl.symm) λb hm=>az b (by simp[hm])
 .refine e.sl (l:=(s.threads++[[R]]).map mS) ?_ (by simp[h.hl]) λb hm=>?_
  .rw[LJ];refine D.cK (m8 _ _ b3 λj x bi=>?_) (D.bw.2 (fE.2 ⟨_,1,1,rfl,Lz _,b0⟩));by_cases z:j=k
   .subst z;have:=h.th.symm.trans bi;injection this with this;subst this;refine⟨_,h.zG,fE.2 ⟨_,_,_,rfl,h.l.cap,hl.sl ?_ (by simp) λb hm=>az b (by simp[Ma.1 hm])⟩⟩;rw[LJ];exact D.cK (D.bV a _ _ (D.bU n _ _ h.fr)) (D.bw.2 (gu.2 ⟨_,_,_,_,_,_,rfl,h.i.cap,h.Hx,al.sl (cI _) (by simp) λb hm=>az b (by simp[hm]),(h.lk.ak n).mono a⟩))
   .obtain⟨u,hu,a9⟩:=h.rj j x z bi;exact⟨u,hu,D.aK a _ _ (D.aP n _ _ a9)⟩
  .rcases r b hm with ac|ac
   .rw[ac];exact az O (by simp)
   .exact .inr ⟨ad,ad⟩
 .have:=(h.o.aj aL).on J d1;rw[<-hX];exact this.aJ 2 _
end
theorem ft{P:Nat->Prop}{w Y:World}{B:Nat}{s aq:ai}{q:SV}{M:Nat->Prop}(h:q.Is Y (λk=>P k\/(B<=k/\k<Y.heap.size)) s)(J:Fr M Y Z)(hM:∀k,M k->¬P k/\k<B)(be:∀k,P k->k<Y.heap.size)(aS:w.heap.size<=B)(aF:Ext w Z)(hs:s=aq):c8 P w aq b (.returned (.tuple #[.agg (q.val aq),.bool b])) Z:=by
 subst hs;exact⟨q,rfl,(h.ak λk aj=>J.block k (aj.elim (be k) λh=>h.2) λhm=>aj.elim (hM k hm).1 λh=>by have:=(hM k hm).2;omega).mono λk aj=>aj.imp id λaj=>⟨ad,by have:=J.size;omega⟩,aF⟩
theorem SV.Is.Hw{P:Nat->Prop}{w V:World}{s:ai}{q:SV}(h:q.Is w P s)(be:∀b,P b->b<w.heap.size)(aF:Ext w V):q.Is V P s:=h.ak λb O=>aF.block b (be b O) λh=>h
theorem xc{P:Nat->Prop}{w:World}{s:ai}{q:SV}(h:q.Is w P s)(be:∀b,P b->b<w.heap.size)(aF:Ext w Z):c8 P w s b (.returned (.tuple #[.agg (q.val s),.bool b])) Z:=
 ⟨q,rfl,(h.Hw be aF).mono λ_ O=>.inl O,aF⟩
theorem RO.Jp{P:Nat->Prop}{B:Nat}{w:World}{s:ai}{k:Nat}{fs:List an}{f:an}{N:Nat}{q:SV}{O lb lc:Nat}{hx cG:List Value}{IA:Mk}{ic:Nat}{bB:Mk}{aE:Nat}{F1 F2 bc:List Nat}(h:RO P B w s k fs f N q O lb lc hx cG IA ic bB aE F1 F2 bc):Sl w (av w) IA f.ints.length (f.ints.map .i):=
 h.i.sl (cI _) (by simp) λb O=>(h.lo b (by simp[O])).2
namespace Dw
theorem BC(h:p:=by
 exact Ag
 ):p:=h
theorem eZ(h:p:=by
 have cc:=aA hu (b2.ok be) b2;obtain⟨H,I⟩:=aH be ht;clear hu b2 be ht;dsimp only[UV.val,SV.val];go_enter func20,ntmps20;go_upto_region 1 with(fail);generalize bd:World.alloc _ _=W;have aF:=l3 bd;have bU:=kr bd;have bQ:=iC bd;have cB:=ks bd;have ag:=dI aF bU bQ cB (cc.1.on aF) (cc.2.1.on aF);have cS:=aF.size;have dy:=cB.lt;obtain⟨a0,ak,af⟩:=bU.two;obtain⟨a8,am,aJ⟩:=bQ.two;clear bd aF bU bQ cB;go_wp2_with(fail);refine(k0 u s t W ⟨GA,gn,gc,MA,mn,mc,PA,pn,pc⟩ ⟨bE,bK,bw,TA,tn,tc,HA,hn,hc⟩ ag.2.2.2.2.2 I.o).mono ?_;rintro e aP ⟨rfl,aL⟩;have bu:=ae aL;clear a0 ak af a8 am aJ;go_upto_region 2 with(fail);generalize hV:World.alloc _ _=V;have bo:Ext W V:=hV▸aL.alloc _;have dj:=bo.size;have m:=ag.2.2.2.1.aj bo;obtain⟨a8,am,aJ⟩:=(ag.2.2.1.aj bo).two;obtain⟨bp,aM,aV⟩:=m.two;have bP:=ah bo m;clear hV bo aL m;go_wp2_with(fail);generalize hX:World.setCell _ _ _=Z;obtain⟨bt,ba,bf⟩:=bs (w:=w) [.slice bE bK bw,.slice TA tn tc,.slice HA hn hc,.int .i64 s.fault] (by rfl) bP.2 (ag.1.trans bP.1) ad hX;exact BB
 ):p:=h
end Dw
open Dw in
theorem w6(u:aw)(s:ai)(t:Int)(P:Nat->Prop)(w:World)(p:UV)(q:SV)(hu:p.Ok w u)(b2:q.Is w P s)(be:∀b,P b->b<w.heap.size)(ht:dO s t=none) :
  Calls prog 20 #[.agg (p.val u),.agg (q.val s),.int .i64 t] w (c8 P w s false):=by
 exact eY
theorem RO.aj{P:Nat->Prop}{B:Nat}{w ab:World}{s:ai}{k:Nat}{fs:List an}{f:an}{N:Nat}{q:SV}{O lb lc:Nat}{hx cG:List Value}{IA:Mk}{ic:Nat}{bB:Mk}{aE:Nat}{F1 F2 bc:List Nat}(h:RO P B w s k fs f N q O lb lc hx cG IA ic bB aE F1 F2 bc)(aF:Ext w ab):RO P B ab s k fs f N q O lb lc hx cG IA ic bB aE F1 F2 bc:=by
 have aj:∀b,b<w.heap.size->ab.heap[b]?=w.heap[b]?:=λb O=>aF.block b O λh=>h;have ap:∀b∈N::O::lb::(F1++(F2++bc)),ab.heap[b]?=w.heap[b]?:=λb O=>aj b (h.lo b O).2;have aS:=(h.lo N (by simp))
 have n:∀b,P b->ab.heap[b]?=w.heap[b]?:=λb O=>aj b (aB (h.pb b O));refine {th:=h.th,gl:=h.gl,tl:=h.tl,hl:=h.hl,g:=h.g.ak λb O=>ap b (by simp[O]),t:=h.t.ak λb O=>ap b (by simp[O]),h:=h.h.ak λb O=>ap b (by simp[Ma.1 O]),mW:=h.mW,rj:=λj cP bi b1=>?_,zG:=h.zG,l:=h.l.ak λb O=>ap b (by simp[Ma.1 O]),fr:=D.bU n _ _ h.fr,lk:=h.lk.ak n,Hx:=h.Hx,i:=h.i.ak λb O=>ap b (by simp[O]),o:=h.o.aj aF,nd:=h.nd,lo:=λb O=>⟨(h.lo b O).1,LC (h.lo b O).2 aF.size⟩,pb:=h.pb};obtain⟨u,hu,a9⟩:=h.rj j cP bi b1;exact⟨u,hu,D.aP n _ _ a9⟩
namespace Dx
theorem vN(h:p:=by
 rw[bT.o];exact ft (B:=V.heap.size) bF.1 bh.2.drew (λb O=>⟨λhl=>by have:=H.o b hl;omega,ad⟩) (λb O=>by have:=H.o b O;omega) ad bh.1.drew (by rw[ej bS.2.1,List.set_set];rfl)
 ):p:=h
theorem dd(h:p:=by
 generalize hX:World.setCell _ _ _=Y;have l:=I.o;rw[hX] at l;have ar:=cJ hX;have G:Ext V Y:=Fr.low (M:=λb=>b=T) (Fr.trans (Fr.mono y.2.1 λ_ h=>h.elim) ar) λb O=>ad;have bF:=aA l.is l.o (bP.trans G);have bg:=G.size;clear hX l ar G a8 am aJ d0 aK aO e0 a6 aQ c0 c1 c2 c3 J flb ab cY aD;exact vM
 ):p:=h
theorem AU(h:p:=by
 clear b8 b7 a8 am aJ;exact G4
 ):p:=h
theorem sH(h:p:=by
 clear cq di ck;rcases cz.o with h|h
 all_goals
  first
   | have q1:(x.op == 1)=true:=by simpa using h
   | have q1:(x.op == 1)=false:=by simp;omega
  first
   | have cO:(x.op == 2)=true:=by simpa using h
   | have cO:(x.op == 2)=false:=by simp;omega
  first
   | have da:(x.op == 3)=true:=by simpa using h
   | have da:(x.op == 3)=false:=by simp;omega
  first
   | have db:(x.op == 4)=true:=by simpa using h
   | have db:(x.op == 4)=false:=by simp;omega
  first
   | have q5:(x.op == 5)=true:=by simpa using h
   | have q5:(x.op == 5)=false:=by simp;omega
  first
   | have dp:(x.op == 6)=true:=by simpa using h
   | have dp:(x.op == 6)=false:=by simp;omega
  first
   | have q7:(x.op == 7)=true:=by simpa using h
   | have q7:(x.op == 7)=false:=by simp;omega
  first
   | have dA:(x.op == 8)=true:=by simpa using h
   | have dA:(x.op == 8)=false:=by simp;omega
  have Q:=ae h;clear h;go_upto_region 12 with(fail);refine eK (λ_=>False) [(0,3),(1,0),(2,3),(3,0),(4,3),(5,3),(6,3),(7,0),(8,2),(9,3),(10,3),(11,3),(12,3),(13,3)] ?_;refine pf ?_;refine ph ?_;refine pf ?_;refine ph ?_
  iterate 3 refine pf ?_
  refine ph ?_;refine au rfl (λK hK=>?_);go_simp;have bi:Ext X X.drew:=(Fr.refl _ X).drew;have cE:=aR.2.2.trans bi;have bX:(bk ex).rep X.drew (av X.drew) [.int .i64 eo,.int .i64 en,.string es,.slice EA em ec]:=by
   have:=(dw.on (aR.2.1.trans bi)).expr;rw[aB.2.1] at this;exact this
  obtain⟨cv,cC⟩:=i.FX aB.1 (ag.2.2.2.2.2.on cE).at_.g (aR.1.Jp.on (Fr.ext bi)) bX;refine(nW ex X.drew bE ds bK f.ints.length bw cR s.globals f.ints _ _ _ _ cv cC).mono ?_;rintro e cI ⟨rfl,bu⟩;have bL:Ext X cI:=Fr.aF (Fr.of bu);have cd:=ae (aR.2.2.trans bL);have cP:=bO.o;generalize ev s.globals f.ints ex=R at *;obtain⟨r,z⟩:=R;have n:=ae cP;have aI:=RO.aj aR.1 bL;have y:=aA aI (aR.2.1.trans bL) (aR.2.2.trans bL);have dE:=bL.size;clear cP bi cE bX cv cC bu bL a0 ak af a8 am aJ d0 aK aO e0 a6 aQ c0 c1 c2 c3 J flb ab;obtain⟨a8,am,aJ⟩:=(ag.2.2.1.aj cd.o).two;obtain⟨d0,aK,aO⟩:=(ca.aj y.2.1).two;obtain⟨e0,a6,aQ⟩:=aI.o.two;obtain⟨bC,bx,flb,ab,J,c0,c1,c2,c3,bz⟩:=aI.top;clear aI;refine dU hK ?_;clear hK K
  iterate 5 refine pf ?_
  refine aC ?_;by_cases aG:z=0
  case neg=>
   have cZ:(z != 0)=true:=by simpa using aG
   have bT:=ae (n.bad aG);exact AT
  have cZ:(z != 0)=false:=by simpa using aG
  have bb:=ae aG;clear aG
 ·
  cases aY:x.du with
  | true=>
   have bT:=ae (n.gl bb.o Q.o aY);rw[aY] at d0;have bZ:=aB.2.2.1 Q.o aY;have bM:=aB.2.2.2.2;have az:=y.1.gl;simp only at az;have cD:x.target<(cx:Int):=ad;obtain⟨bj,aW,c6,cY,⟨c5,aD⟩,cL,cj,aj⟩:=y.1.du (j:=x.target.toNat) (by show x.target.toNat<cx;omega);simp only at aW;subst aW;have I:=ae (aj r);clear bZ bM az aj aY;go_upto_region 45 with(fail);generalize hX:World.setCell _ _ _=Y;have l:=I.o;rw[hX] at l;have ar:=cJ hX;have G:Ext V Y:=Fr.low (M:=λb=>b=bj) (Fr.trans (Fr.mono y.2.1 λ_ h=>h.elim) ar) λb O=>ad;have bF:=aA l.is l.o (bP.trans G);have bg:=G.size;clear hX l ar G a8 am aJ d0 aK aO e0 a6 aQ c0 c1 c2 c3 J flb ab cY aD;have a2:=ah (ag.2.2.2.1.aj bF.2.2) (ag.1.trans bF.2.2);have dh:=bF.2.2.size;obtain⟨bp,aM,aV⟩:=a2.1.two;obtain⟨e0,a6,aQ⟩:=bF.2.1.two;go_wp2_with(fail);generalize hX:World.setCell _ _ _=Z;obtain⟨bt,ba,bf⟩:=bs (w:=w) [.slice (some ⟨bj,0,none⟩) cx L,.slice bA m S,.slice (some ⟨O,0,none⟩) bJ aX,.int .i64 s.fault] (by rfl) a2.1 a2.2 ad hX;have bh:=ah ba bf;clear hX ba bf bp aM aV e0 a6 aQ;obtain⟨bp,aM,aV⟩:=bt.two;refine Mf (v:=.tuple #[.agg #[.slice (some ⟨bj,0,none⟩) cx L,.slice bA m S,.slice (some ⟨O,0,none⟩) bJ aX,.int .i64 s.fault],.bool true]) (by simp[results,Tryz.results20,go_sem,bp]) rfl ?_
   exact DI
  | false=>
   have bT:=ae (n.lo bb.o Q.o aY);rw[aY] at d0;have ap:=aB.2.2.2.1 Q.o aY;have bR:x.target<((next f).ints.length:Int):=ap;obtain⟨T,a4,c6,cY,⟨c5,aD⟩,cL,cj,hints⟩:=y.1.ints (j:=x.target.toNat) (by show x.target.toNat<f.ints.length;omega);subst a4;have I:=ae (hints r);clear hints aY;go_upto_region 20 with(fail);exact BW
 ·
  by_cases a9:r=0
  .have Fp:(r == 0)=true:=by simpa using a9
   have bT:=ae (n.bz bb.o Q.o a9);clear a9;go_upto_region 45 with(fail);generalize hX:World.setCell _ _ _=Y;have l:=y.1.pc x.target;rw[hX] at l;have ar:=cJ hX;have G:Ext V Y:=Fr.low (M:=λb=>b=lb) (Fr.trans (Fr.mono y.2.1 λ_ h=>h.elim) ar) λb O=>ad;have bF:=aA l.is l.o (bP.trans G);have bg:=G.size;clear hX l ar G a8 am aJ d0 aK aO e0 a6 aQ c0 c1 c2 c3 J flb ab;exact G1
  .have Fp:(r == 0)=false:=by simpa using a9
   have bT:=ae (n.bn bb.o Q.o a9);clear a9;have bF:=aA y.1.is y.1.o y.2.2;clear e0 a6 aQ c0 c1 c2 c3 J flb ab;have a2:=ah (ag.2.2.2.1.aj bF.2.2) (ag.1.trans bF.2.2);have dh:=bF.2.2.size;obtain⟨bp,aM,aV⟩:=a2.1.two;obtain⟨e0,a6,aQ⟩:=bF.2.1.two;go_wp2_with(fail);generalize hX:World.setCell _ _ _=Z;obtain⟨bt,ba,bf⟩:=bs (w:=w) [.slice bV cx L,.slice bA m S,.slice (some ⟨O,0,none⟩) bJ aX,.int .i64 s.fault] (by rfl) a2.1 a2.2 ad hX;have bh:=ah ba bf;clear hX ba bf bp aM aV e0 a6 aQ;obtain⟨bp,aM,aV⟩:=bt.two;refine Mf (v:=.tuple #[.agg #[.slice bV cx L,.slice bA m S,.slice (some ⟨O,0,none⟩) bJ aX,.int .i64 s.fault],.bool true]) (by simp[results,Tryz.results20,go_sem,bp]) rfl ?_;exact DI
 ):p:=h
theorem sJ(h:p:=by
 exact sG
 ):p:=h
theorem Bm(h:p:=by
 have bO:=ae (KB (u:=u) (s:=s) (t:=t) (f:=f) hex co);have aS:=h.hS.du;have aB:=cX bD hex cb aT aS;clear al hlen bD hex cb aT aS;exact sI
 ):p:=h
theorem sL(h:p:=by
 exact Bl
 ):p:=h
end Dx
open Dx in
theorem qT(u:aw)(s:ai)(t:Int)(f:an)(cp:cM)(x:ay)(N:Nat)(P:Nat->Prop)(w:World)(p:UV)(q:SV)(h:jq u s t f cp x N)(hN:N<=100000)(co:x.op=1\/x.op=6)(hu:p.Ok w u)(b2:q.Is w P s)(be:∀b,P b->b<w.heap.size) :
  Calls prog 20 #[.agg (p.val u),.agg (q.val s),.int .i64 t] w (c8 P w (b1 u s t f x).1 (b1 u s t f x).2):=by
 exact sK
end Go.Proofs.YtflecliffjbleaaGreat

/- Part 25 of the proof. No condition of its own. -/
import Derived.Test.YtnhhdaggkiomoaaGreatQ24
namespace Go.Proofs.YtnhhdaggkiomoaaGreat
open Go.RowKit Go.Proofs.Tryz
set_option maxRecDepth 1000000
set_option maxHeartbeats 25600000
set_option linter.unusedVariables false
variable{b:Bool}{y:Nat→Prop}{p:Prop}{Z:World}{R:al}
theorem mO{α:Type}{enc:α→D}{w:World}{P:Nat→Prop}:∀(l:List α) (xs:List Value),xs.length=l.length→(∀(j:Nat) (x:α),l[j]?=some x→∃u,xs[j]?=some u∧(enc x).rep w P [u])→D.aQ w P (l.map enc) xs
 | [],[],_,_=>aP.2 rfl
 | [],_::_,h,_=>by simp at h
 | _::_,[],h,_=>by simp at h
 | a::l,v::xs,h,hp=>by
  obtain⟨u,hu,a5⟩:=hp 0 a rfl;simp only[List.getElem?_cons_zero,Lj] at hu;subst hu;exact dE.2 ⟨[v],xs,rfl,a5,mO l xs (by simpa using h) fun j x hx=>by simpa using hp (j+1) x (by simpa using hx)⟩
section
variable {P:Nat→Prop} {B:Nat} {w ab:World} {s Q:aj} {k:Nat} {fs:List al} {f a6:al} {N:Nat} {q:SV} {O lb lc:Nat} {hx cK:List Value} {IA:Ls} {ic:Nat} {S:Ls} {aH:Nat} {F1 F2 a4:List Nat}
theorem RO.JK(h:RO P B w s k fs f N q O lb lc hx cK IA ic S aH F1 F2 a4):q.Is w (fun b=>P b∨(B≤b∧b<w.heap.size∧b≠N)) s:=by
 have bv:=h.lo;have aJ:∀b∈O::lb::(F1++(F2++a4)),P b∨(B≤b∧b<w.heap.size∧b≠N):=fun b hm=>.inr ⟨(bv b (List.mem_cons_of_mem _ hm)).1,(bv b (List.mem_cons_of_mem _ hm)).2,fun he=>(List.nodup_cons.1 h.nd).1 (he▸hm)⟩;have a:∀b,P b→P b∨(B≤b∧b<w.heap.size∧b≠N):=fun b O=>.inl O;refine⟨⟨?_,?_,?_⟩,h.g.cap,h.t.cap,h.h.cap⟩
 ·exact h.g.sl (cu _) (by rw[KK];exact h.gl.symm) fun b O=>aJ b (by simp[O])
 ·exact h.t.sl (dw _) (by rw[KK];exact h.tl.symm) fun b O=>aJ b (by simp[O])
 ·have b0:hx.length=s.threads.length:=by have:=h.h.row.1;rw[Nat.mul_one] at this;rw[this];exact h.hl
  refine h.h.sl (mO _ _ b0 fun j x bi=>?_) (by rw[KK];exact h.hl.symm) fun b O=>aJ b (by simp[Li.1 O]);by_cases z:j=k
  ·subst z;have:=h.th.symm.trans bi;injection this with this;subst this;refine⟨_,h.yV,eS.2 ⟨_,_,_,rfl,h.l.cap,h.l.sl ?_ (by simp) fun b O=>aJ b (by simp[Li.1 O])⟩⟩;rw[KN];exact D.cH (D.bV a _ _ h.fr) (D.bj.2 (ga.2 ⟨_,_,_,_,_,_,rfl,h.i.cap,h.GK,h.i.sl (cu _) (by simp) fun b O=>aJ b (by simp[O]),h.lk.mono a⟩))
  ·obtain⟨u,hu,a5⟩:=h.qQ j x z bi;exact⟨u,hu,D.aL a _ _ a5⟩
theorem RO.is(h:RO P B w s k fs f N q O lb lc hx cK IA ic S aH F1 F2 a4):q.Is w (fun b=>P b∨(B≤b∧b<w.heap.size)) s:=h.JK.mono fun b O=>O.imp id fun O=>⟨O.1,O.2.1⟩
theorem RO.I5(h:RO P B w s k fs f N q O lb lc hx cK IA ic S aH F1 F2 a4){g:Nat}(a2:g∈lb::(F1++(F2++a4)))(bW:ab.heap.size=w.heap.size)(ap:∀b,b≠g→ab.heap[b]?=w.heap[b]?)
  (c:∀j,j≠k→Q.threads[j]?=s.threads[j]?) (aL:Q.threads[k]?=some (fs++[a6])) (ci:Q.globals.length=s.globals.length) (cH:Q.table.length=s.table.length) (cE:Q.threads.length=s.threads.length) (E:Q.fault=s.fault) (cf:a6.av=f.av)
  (hG:Own ab 3 1 q.GA q.gn q.gc (Q.globals.map dc) F1) (hT:Own ab 102 2 q.TA q.tn q.tc (Q.table.flatMap bJ) F2)
  (bS:Own ab 73 4 (some ⟨lb,0,none⟩) (fs.length+1) lc (cK++[.int .i64 a6.proc,.int .i64 a6.pc,.slice IA a6.ints.length ic,.slice S a6.av.length aH]) [lb])
  (hI:Own ab 3 1 IA a6.ints.length ic (a6.ints.map dc) a4):RO P B ab Q k fs a6 N q O lb lc hx cK IA ic S aH F1 F2 a4:=by
 have n1:=List.nodup_cons.1 h.nd;have n2:=List.nodup_cons.1 n1.2;have Z:N≠g:=fun he=>n1.1 (by rw[he];exact List.mem_cons_of_mem _ a2);have a:O≠g:=fun he=>n2.1 (by rw[he];exact a2);have dt:B≤g:=(h.lo g (by simp only[KW] at a2 ⊢;exact .inr (.inr a2))).1;have n:∀b,P b→ab.heap[b]?=w.heap[b]?:=fun b O=>ap b (aD (h.pb b O));refine {th:=aL,gl:=h.gl.trans ci.symm,tl:=h.tl.trans cH.symm,hl:=h.hl.trans cE.symm,g:=hG,t:=hT,h:=h.h.ak fun b O=>ap b (by rw[Li.1 O];exact a),mC:=h.mC,qQ:=fun j cL bi b2=>?_,yV:=h.yV,l:=bS,fr:=D.bU n _ _ h.fr,lk:=by rw[cf];exact h.lk.ak n,GK:=by rw[cf];exact h.GK,i:=hI,o:=?_,nd:=h.nd,lo:=fun b O=>by rw[bW];exact h.lo b O,pb:=h.pb}
 ·obtain⟨u,hu,a5⟩:=h.qQ j cL bi ((c j bi).symm.trans b2);exact⟨u,hu,D.aS n _ _ a5⟩
 ·have:=(ap N Z).trans h.o;unfold SV.val at this ⊢
  rwa [E]
namespace CQ
theorem vw(h:p:=by
 obtain⟨g,bw,-,-,-,-,hs⟩:=h.l.block ad;obtain rfl:lb=g:=by simpa using bw
 have L:=hs (fs.length*4+1) (.int .i64 v) ad;rw[List.set_append_right _ _ ad,ar,Nat.add_sub_cancel_left] at L;exact h.I5 (g:=lb) (by simp) (by simp[World.setCell]) (fun b O=>aR O) (fun j bi=>by simp[Ne.symm bi]) (by simp[ak]) rfl rfl (by simp) rfl rfl
  (h.g.ak fun b O=>aR (hn b (by simp[O]))) (h.t.ak fun b O=>aR (hn b (by simp[O]))) L (h.i.ak fun b O=>aR (hn b (by simp[O])))
 ):p:=h
end CQ
open CQ in
theorem RO.pc(h:RO P B w s k fs f N q O lb lc hx cK IA ic S aH F1 F2 a4)(v:Int) :
  RO P B (w.setCell ⟨lb,fs.length*4+1,none⟩ (.int .i64 v)) {s with threads:=s.threads.set k (fs++[{f with pc:=v}])} k fs {f with pc:=v} N q O lb lc hx cK IA ic S aH F1 F2 a4:=by
 have ak:=(List.getElem?_eq_some_iff.1 h.th).1;have n1:=List.nodup_cons.1 (List.nodup_cons.1 (List.nodup_cons.1 h.nd).2).2;have hn:∀b∈F1++(F2++a4),b≠lb:=fun b O he=>n1.1 (he▸O);exact vv
namespace CS
theorem vw(h:p:=by
 have cp:k<q.hn:=by rw[h.hl];exact ak
 obtain⟨g,bw,-,hl,hc,J,-⟩:=h.l.block ad;obtain rfl:lb=g:=by simpa using bw
 obtain⟨g2,a3,-,cg,b9,az,-⟩:=h.h.block ad;obtain rfl:O=g2:=by have:=h.mC.symm.trans a3;simpa using this
 refine⟨hl,cg,J,az,b9 _ _ h.yV,hc _ _ ?_,hc _ _ ?_,hc _ _ ?_,hc _ _ ?_,cp⟩<;>rw[←ar,List.getElem?_append_right ad]<;>simp
 ):p:=h
end CS
open CS in
theorem RO.top(h:RO P B w s k fs f N q O lb lc hx cK IA ic S aH F1 F2 a4):lb<w.heap.size∧O<w.heap.size∧(∀j,w.frozen? ⟨lb,j,none⟩=false)∧(∀j,w.frozen? ⟨O,j,none⟩=false)∧w.cell? ⟨O,k,none⟩=some (.slice (some ⟨lb,0,none⟩) (fs.length+1) lc)∧w.cell? ⟨lb,fs.length*4,none⟩=some (.int .i64 f.proc)∧w.cell? ⟨lb,fs.length*4+1,none⟩=some (.int .i64 f.pc)∧
  w.cell? ⟨lb,fs.length*4+2,none⟩=some (.slice IA f.ints.length ic)∧w.cell? ⟨lb,fs.length*4+3,none⟩=some (.slice S f.av.length aH)∧k<q.hn:=by
 have ak:=(List.getElem?_eq_some_iff.1 h.th).1;exact vv
theorem RO.ints(h:RO P B w s k fs f N q O lb lc hx cK IA ic S aH F1 F2 a4){j:Nat}(bi:j<f.ints.length):∃I,IA=some ⟨I,0,none⟩∧I<w.heap.size∧w.frozen? ⟨I,j,none⟩=false∧(∃u,w.cell? ⟨I,j,none⟩=some u)∧I≠N∧B≤I∧
  ∀v,RO P B (w.setCell ⟨I,j,none⟩ (.int .i64 v)) {s with threads:=s.threads.set k (fs++[{f with ints:=f.ints.set j v}])} k fs {f with ints:=f.ints.set j v} N q O lb lc hx cK IA ic S aH F1 F2 a4:=by
 have ak:=(List.getElem?_eq_some_iff.1 h.th).1;obtain⟨I,dl,rfl,cD,hc,J,hs⟩:=h.i.block ad;have hm:I∈N::O::lb::(F1++(F2++[I])):=by simp
 have n1:=List.nodup_cons.1 h.nd;have hn:∀b∈lb::(F1++F2),b≠I:=by
  have:=eF (A:=lb::(F1++F2)) (B:=[]) (x:=I) (by simpa[KU] using (List.nodup_cons.1 n1.2).2);simpa using this
 refine⟨I,dl,cD,J j,⟨_,hc j (dc f.ints[j]) (by simp[bi])⟩,fun he=>n1.1 (by rw[he];simp),(h.lo I hm).1,fun v=>?_⟩;have L:=hs j (.int .i64 v) ad;refine h.I5 (g:=I) (by simp) (by simp[World.setCell]) (fun b O=>aR O) (fun j bi=>by simp[Ne.symm bi]) (by simp[ak]) rfl rfl (by simp) rfl rfl
  (h.g.ak fun b O=>aR (hn b (by simp[O]))) (h.t.ak fun b O=>aR (hn b (by simp[O]))) ?_ ?_
 ·simp only[List.length_set];exact h.l.ak fun b O=>aR (hn b (by simp[Li.1 O]))
 ·simp only[List.length_set];rw[pW];exact L
theorem RO.dg(h:RO P B w s k fs f N q O lb lc hx cK IA ic S aH F1 F2 a4){j:Nat}(bi:j<q.gn):∃ck,q.GA=some ⟨ck,0,none⟩∧ck<w.heap.size∧w.frozen? ⟨ck,j,none⟩=false∧(∃u,w.cell? ⟨ck,j,none⟩=some u)∧ck≠N∧B≤ck∧
  ∀v,RO P B (w.setCell ⟨ck,j,none⟩ (.int .i64 v)) {s with globals:=s.globals.set j v} k fs f N q O lb lc hx cK IA ic S aH F1 F2 a4:=by
 obtain⟨ck,y,rfl,ci,hc,J,hs⟩:=h.g.block ad;have hm:ck∈N::O::lb::([ck]++(F2++a4)):=by simp
 have n1:=List.nodup_cons.1 h.nd;have hn:∀b∈lb::(F2++a4),b≠ck:=by
  have:=eF (A:=[lb]) (B:=F2++a4) (x:=ck) (by simpa using (List.nodup_cons.1 n1.2).2);simpa using this
 have aV:j<s.globals.length:=by rw[←h.gl];exact bi
 refine⟨ck,y,ci,J j,⟨_,hc j (dc s.globals[j]) (by simp[aV])⟩,fun he=>n1.1 (by rw[he];simp),(h.lo ck hm).1,fun v=>?_⟩;have L:=hs j (.int .i64 v) ad;rw[←show (.int .i64 v:Value)=.int .i64 v from rfl] at L;refine h.I5 (g:=ck) (by simp) (by simp[World.setCell]) (fun b O=>aR O) (fun _ _=>rfl) h.th (by simp) rfl rfl rfl rfl
  ?_ (h.t.ak fun b O=>aR (hn b (by simp[O]))) (h.l.ak fun b O=>aR (hn b (by simp[Li.1 O]))) (h.i.ak fun b O=>aR (hn b (by simp[O])))
 show Own _ 3 1 q.GA q.gn q.gc ((s.globals.set j v).map dc) [ck]
 rw[pW];exact L
end
section
variable {P:Nat→Prop} {B:Nat} {w ab X:World} {s Q:aj} {k:Nat} {fs:List al} {f a6:al} {N:Nat} {q:SV} {O lb lc:Nat} {hx cK:List Value} {IA:Ls} {ic:Nat} {S:Ls} {aH:Nat} {F1 F2 a4:List Nat}
theorem RO.sep(h:RO P B w s k fs f N q O lb lc hx cK IA ic S aH F1 F2 a4):N≠O∧N≠lb∧O≠lb∧(∀b∈F1++(F2++a4),b≠N∧b≠O∧b≠lb)∧∀b,P b→b<w.heap.size∧b≠N∧b≠O∧b≠lb:=by
 have n1:=List.nodup_cons.1 h.nd;have n2:=List.nodup_cons.1 n1.2;have n3:=List.nodup_cons.1 n2.2;refine⟨fun he=>n1.1 (by rw[he];simp),fun he=>n1.1 (by rw[he];simp),fun he=>n2.1 (by rw[he];simp),fun b hm=>⟨fun he=>n1.1 (he▸?_),fun he=>n2.1 (he▸?_),fun he=>n3.1 (he▸hm)⟩,fun b hm=>?_⟩
 ·exact List.mem_cons_of_mem _ (List.mem_cons_of_mem _ hm)
 ·exact List.mem_cons_of_mem _ hm
 ·have ac:=h.pb b hm;have av:=h.lo N (by simp);have aV:=h.lo O (by simp);have bz:=h.lo lb (by simp);omega
theorem RO.fin(h:RO P B w s k fs f N q O lb lc hx cK IA ic S aH F1 F2 a4)(bW:w.heap.size≤X.heap.size)(ap:∀b,b<w.heap.size→b≠O→b≠lb→X.heap[b]?=w.heap[b]?){T:List al}{v:Value}
  (vT:Own X 69 1 q.HA q.hn q.hc (hx.set k v) [O]) (bM:(jP T).rep X (fun b=>P b∨(B≤b∧b<X.heap.size)) [v]) :
  q.Is X (fun b=>P b∨(B≤b∧b<X.heap.size)) {s with threads:=s.threads.set k T}∧aq X N 40 (q.val s):=by
 obtain⟨d1,d2,d3,o,g⟩:=h.sep;have bv:=h.lo;have aJ:∀b∈N::O::lb::(F1++(F2++a4)),P b∨(B≤b∧b<X.heap.size):=fun b O=>.inr ⟨(bv b O).1,by have:=(bv b O).2;omega⟩;have i:∀b∈F1++(F2++a4),X.heap[b]?=w.heap[b]?:=fun b O=>ap b (bv b (List.mem_cons_of_mem _ (List.mem_cons_of_mem _ (List.mem_cons_of_mem _ O)))).2 (o b O).2.1 (o b O).2.2;have n:∀b,P b→X.heap[b]?=w.heap[b]?:=fun b O=>ap b (g b O).1 (g b O).2.2.1 (g b O).2.2.2;have a:∀b,P b→P b∨(B≤b∧b<X.heap.size):=fun b O=>.inl O;have b0:hx.length=s.threads.length:=by have:=h.h.row.1;rw[Nat.mul_one] at this;rw[this];exact h.hl
 have ak:=(List.getElem?_eq_some_iff.1 h.th).1;refine⟨⟨⟨?_,?_,?_⟩,h.g.cap,h.t.cap,h.h.cap⟩,(ap N (bv N (by simp)).2 d1 d2).trans h.o⟩
 ·exact(h.g.ak fun b O=>i b (by simp[O])).sl (cu _) (by rw[KK];exact h.gl.symm) fun b O=>aJ b (by simp[O])
 ·exact(h.t.ak fun b O=>i b (by simp[O])).sl (dw _) (by rw[KK];exact h.tl.symm) fun b O=>aJ b (by simp[O])
 ·refine vT.sl (mO _ _ (by simpa using b0) fun j x bi=>?_) (by simp only[KK,List.length_set];exact h.hl.symm) fun b O=>aJ b (by simp[Li.1 O]);by_cases z:j=k
  ·subst z;rw[List.getElem?_set_self ak] at bi;injection bi with bi;subst bi;exact⟨v,List.getElem?_set_self ad,bM⟩
  ·rw[List.getElem?_set_ne (Ne.symm z)] at bi;obtain⟨u,hu,a5⟩:=h.qQ j x z bi;exact⟨u,by rw[List.getElem?_set_ne (Ne.symm z)];exact hu,D.aL a _ _ (D.aS n _ _ a5)⟩
theorem RO.vT(h:RO P B w s k fs f N q O lb lc hx cK IA ic S aH F1 F2 a4)(v:Value):Own (w.setCell ⟨O,k,none⟩ v) 69 1 q.HA q.hn q.hc (hx.set k v) [O]:=by
 have ak:=(List.getElem?_eq_some_iff.1 h.th).1;have cp:k<q.hn:=by rw[h.hl];exact ak
 obtain⟨g2,a3,-,-,-,-,hs⟩:=h.h.block ad;obtain rfl:O=g2:=by have:=h.mC.symm.trans a3;simpa using this
 exact hs k v ad
namespace CT
theorem vw(h:p:=by
 have hc:=h.l.cap;have hl:=(h.l.shorter (m:=fs.length) ad ad).ak (ab:=X) fun b O=>ax b (by rw[Li.1 O];exact Ne.symm d3);rw[List.take_append_of_le_length ad,KO ad] at hl;refine h.fin ad (fun b _ ac _=>ax b ac) (by rw[←hX];exact h.vT _) (eS.2 ⟨_,fs.length,lc,rfl,ad,hl.sl (D.bV (fun b O=>.inl O) _ _ (D.bU (fun b O=>ax b (g b O).2.2.1) _ _ h.fr)) (by simp) fun b aX=>.inr ?_⟩);rw[Li.1 aX,H];exact h.lo lb (by simp)
 ):p:=h
end CT
open CT in
theorem RO.drop(h:RO P B w s k fs f N q O lb lc hx cK IA ic S aH F1 F2 a4)(hX:w.setCell ⟨O,k,none⟩ (.slice (some ⟨lb,0,none⟩) fs.length lc)=X) :
  q.Is X (fun b=>P b∨(B≤b∧b<X.heap.size)) {s with threads:=s.threads.set k fs}∧aq X N 40 (q.val s):=by
 obtain⟨d1,d2,d3,o,g⟩:=h.sep;have H:X.heap.size=w.heap.size:=by rw[←hX];simp[World.setCell]
 have ax:∀b,b≠O→X.heap[b]?=w.heap[b]?:=fun b O=>by rw[←hX];exact aR O
 exact vv
theorem RO.push(h:RO P B w s k fs f N q O lb lc hx cK IA ic S aH F1 F2 a4){cs:List Value}(cV:(er R).rep w y cs)(c:∀b,y b→B≤b∧b<w.heap.size∧b≠O∧b≠lb)
  {I:Ls} {aK:Nat} {aT:World} (a5:Own aT 73 4 I (fs.length+2) aK (cK++[.int .i64 f.proc,.int .i64 f.pc,.slice IA f.ints.length ic,.slice S f.av.length aH]++cs) (bq I (fs.length+2) aK))
  (bE:Fr (fun b=>b=lb) w aT) (r:∀b∈bq I (fs.length+2) aK,b=lb∨(w.heap.size≤b∧b<aT.heap.size)) (hX:aT.setCell ⟨O,k,none⟩ (.slice I (fs.length+2) aK)=X) :
  q.Is X (fun b=>P b∨(B≤b∧b<X.heap.size)) {s with threads:=s.threads.set k (fs++[f]++[R])}∧aq X N 40 (q.val s):=by
 obtain⟨d1,d2,d3,o,g⟩:=h.sep;have bO:=bE.size;have H:X.heap.size=aT.heap.size:=by rw[←hX];simp[World.setCell]
 have ax:∀b,b<w.heap.size→b≠O→b≠lb→X.heap[b]?=w.heap[b]?:=fun b hl ac av=>by rw[←hX];exact(aR ac).trans (bE.block b hl av)
 have T:=(h.lo O (by simp)).2;have d:∀b∈bq I (fs.length+2) aK,b≠O:=fun b aX=>by
  rcases r b aX with ac|ac
  ·rw[ac];exact Ne.symm d3
  ·omega
 have e:=a5.ak (ab:=X) fun b aX=>by rw[←hX];exact aR (d b aX)
 have n:∀b,P b→X.heap[b]?=w.heap[b]?:=fun b O=>ax b (g b O).1 (g b O).2.2.1 (g b O).2.2.2;have a:∀b,P b→P b∨(B≤b∧b<X.heap.size):=fun b O=>.inl O;have aJ:∀b∈N::O::lb::(F1++(F2++a4)),P b∨(B≤b∧b<X.heap.size):=fun b O=>.inr ⟨(h.lo b O).1,by have:=(h.lo b O).2;omega⟩;have an:=h.i.ak (ab:=X) fun b O=>ax b (h.lo b (by simp[O])).2 (o b (by simp[O])).2.1 (o b (by simp[O])).2.2;have vT:Own X 69 1 q.HA q.hn q.hc (hx.set k (.slice I (fs.length+2) aK)) [O]:=by
  have ac:Own aT 69 1 q.HA q.hn q.hc hx [O]:=h.h.ak fun b aX=>bE.block b (by rw[Li.1 aX];exact T) (by rw[Li.1 aX];exact d3);have ak:=(List.getElem?_eq_some_iff.1 h.th).1;have cp:k<q.hn:=by rw[h.hl];exact ak
  obtain⟨g2,a3,-,-,-,-,hs⟩:=ac.block ad;obtain rfl:O=g2:=by have:=h.mC.symm.trans a3;simpa using this
  rw[←hX];exact hs k _ ad
 refine h.fin ad ax vT (eS.2 ⟨_,_,_,rfl,e.cap,e.sl ?_ (by simp) fun b aX=>?_⟩)
 ·rw[KN,KN];refine D.cH (D.cH (D.bV a _ _ (D.bU n _ _ h.fr)) (D.bj.2 (ga.2 ⟨_,_,_,_,_,_,rfl,h.i.cap,h.GK,an.sl (cu _) (by simp) fun b O=>aJ b (by simp[O]),(h.lk.ak n).mono a⟩))) (D.bj.2 ?_);exact D.aL (fun b O=>.inr (⟨(c b O).1,by have:=(c b O).2.1;omega⟩:B≤b∧b<X.heap.size)) _ _ (D.aS (fun b O=>ax b (c b O).2.1 (c b O).2.2.1 (c b O).2.2.2) _ _ cV)
 ·rcases r b aX with ac|ac
  ·rw[ac];exact aJ lb (by simp)
  ·have:=(h.lo O (by simp));exact .inr ⟨ad,ad⟩
end
section
variable {P:Nat→Prop} {B:Nat} {w ab X:World} {s Q:aj} {k:Nat} {fs:List al} {f a6:al} {N:Nat} {q:SV} {O lb lc:Nat} {hx cK:List Value} {IA:Ls} {ic:Nat} {S:Ls} {aH:Nat} {F1 F2 a4:List Nat}
theorem RO.HU(h:RO P B w s k fs f N q O lb lc hx cK IA ic S aH F1 F2 a4){PT:Nat→Prop}{I:Ls}{aP aK:Nat}{T:List cy}(hT:Sl w PT I aP (T.map lj))(hn:aP≤aK)(a:∀b,PT b→P b∨(B≤b∧b<w.heap.size∧b≠N))(hX:w.setCell ⟨N,1,none⟩ (.slice I aP aK)=X):
  let ar:SV:=⟨q.GA,q.gn,q.gc,I,aP,aK,q.HA,q.hn,q.hc⟩
  let Q:aj:={s with table:=T}
  ar.Is X (fun b=>P b∨(B≤b∧b<X.heap.size)) Q∧aq X N 40 (ar.val Q):=by
 intro ar Q;have H:X.heap.size=w.heap.size:=by rw[←hX];simp[World.setCell]
 have ap:∀b,(P b∨(B≤b∧b<w.heap.size∧b≠N))→X.heap[b]?=w.heap[b]?:=fun b hm=>by
  rw[←hX];refine aR ?_;rcases hm with hm|hm
  ·exact(h.sep.2.2.2.2 b hm).2.1
  ·exact hm.2.2
 have an:=h.JK.ak ap;have hm:∀b,(P b∨(B≤b∧b<w.heap.size∧b≠N))→P b∨(B≤b∧b<X.heap.size):=fun b O=>O.imp id fun O=>⟨O.1,by rw[H];exact O.2.1⟩
 refine⟨⟨⟨an.at_.g.mono hm,(hT.ak fun b O=>ap b (a b O)).mono fun b O=>hm b (a b O),an.at_.h.mono hm⟩,an.gc,hn,an.hc⟩,?_⟩;rw[←hX];exact h.o.aM 1 _
theorem RO.start(h:RO P B w s k fs f N q O lb lc hx cK IA ic S aH F1 F2 a4){c0 c1 c2 c3:Value}(cV:(er R).rep w y [c0,c1,c2,c3])(c:∀b,y b→B≤b∧b<w.heap.size∧b≠O∧b≠N)
  {aS aT:World} (ao:w.alloc (.cells #[c0,c1,c2,c3] 73)=aS) {I:Ls} {aK:Nat}
  (a5:Own aT 69 1 I (q.hn+1) aK (hx++[.slice (some ⟨w.heap.size,0,none⟩) 1 1]) (bq I (q.hn+1) aK)) (J:Fr (fun b=>b=O) aS aT) (r:∀b∈bq I (q.hn+1) aK,b=O∨(aS.heap.size≤b∧b<aT.heap.size))
  (hX:aT.setCell ⟨N,2,none⟩ (.slice I (q.hn+1) aK)=X) :
  let ar:SV:=⟨q.GA,q.gn,q.gc,q.TA,q.tn,q.tc,I,q.hn+1,aK⟩
  let Q:aj:={s with threads:=s.threads++[[R]]}
  ar.Is X (fun b=>P b∨(B≤b∧b<X.heap.size)) Q∧aq X N 40 (ar.val Q):=by
 intro ar Q;obtain⟨d1,d2,d3,o,g⟩:=h.sep;have dG:aS.heap.size=w.heap.size+1:=by rw[←ao];simp
 have aN:=aU ao;have v:=aG ao;have bO:=J.size;have H:X.heap.size=aT.heap.size:=by rw[←hX];simp[World.setCell]
 have cW:=h.lo N (by simp);have dc:=h.lo O (by simp);have bp:=h.lo lb (by simp);have ax:∀b,b<aS.heap.size→b≠N→b≠O→X.heap[b]?=aS.heap[b]?:=fun b ak bf aV=>by
  rw[←hX];exact(aR bf).trans (J.block b ak aV)
 have m:∀b,b<w.heap.size→b≠N→b≠O→X.heap[b]?=w.heap[b]?:=fun b ak bf aV=>(ax b ad bf aV).trans (aN.block b ak fun h=>h);have n:∀b,P b→X.heap[b]?=w.heap[b]?:=fun b hm=>m b (g b hm).1 (g b hm).2.1 (g b hm).2.2.1;have i:∀b∈F1++(F2++a4),X.heap[b]?=w.heap[b]?:=fun b hm=>m b (h.lo b (List.mem_cons_of_mem _ (List.mem_cons_of_mem _ (List.mem_cons_of_mem _ hm)))).2 (o b hm).1 (o b hm).2.1;have a:∀b,P b→P b∨(B≤b∧b<X.heap.size):=fun b hm=>.inl hm;have aJ:∀b∈N::O::lb::(F1++(F2++a4)),P b∨(B≤b∧b<X.heap.size):=fun b hm=>.inr ⟨(h.lo b hm).1,by have:=(h.lo b hm).2;omega⟩;have bG:aq X w.heap.size 73 #[c0,c1,c2,c3]:=(ax _ ad ad ad).trans v;have cf:(er R).rep X (fun b=>P b∨(B≤b∧b<X.heap.size)) [c0,c1,c2,c3]:=D.aL (fun b hm=>.inr (⟨(c b hm).1,by have:=(c b hm).2.1;omega⟩:B≤b∧b<X.heap.size)) _ _ (D.aS (fun b hm=>m b (c b hm).2.1 (c b hm).2.2.2 (c b hm).2.2.1) _ _ cV);have ch:Sl X (fun b=>P b∨(B≤b∧b<X.heap.size)) (some ⟨w.heap.size,0,none⟩) 1 ([R].map er):=⟨rfl,fun _=>⟨w.heap.size,0,[c0,c1,c2,c3],rfl,.inr ⟨ad,ad⟩,by simp only[KM,Le];exact D.bj.2 cf,fun j u hu=>by
  rw[KY,bG.cell];simpa using hu⟩⟩
 have d:∀b∈bq I (q.hn+1) aK,b≠N:=fun b hm=>by
  rcases r b hm with ac|ac
  ·rw[ac];exact Ne.symm d1
  ·omega
 have e:=a5.ak (ab:=X) fun b hm=>by rw[←hX];exact aR (d b hm)
 have hl:=h.l.ak (ab:=X) fun b hm=>by rw[Li.1 hm];exact m lb bp.2 (Ne.symm d2) (Ne.symm d3)
 have an:=h.i.ak (ab:=X) fun b hm=>i b (by simp[hm]);have b0:hx.length=s.threads.length:=by have:=h.h.row.1;rw[Nat.mul_one] at this;rw[this];exact h.hl
 refine⟨⟨⟨?_,?_,?_⟩,h.g.cap,h.t.cap,e.cap⟩,?_⟩
 ·exact(h.g.ak fun b hm=>i b (by simp[hm])).sl (cu _) (by rw[KK];exact h.gl.symm) fun b hm=>aJ b (by simp[hm])
 ·exact(h.t.ak fun b hm=>i b (by simp[hm])).sl (dw _) (by rw[KK];exact h.tl.symm) fun b hm=>aJ b (by simp[hm])
 ·refine e.sl (l:=(s.threads++[[R]]).map jP) ?_ (by simp[h.hl]) fun b hm=>?_
  ·rw[KN];refine D.cH (mO _ _ b0 fun j x bi=>?_) (D.bj.2 (eS.2 ⟨_,1,1,rfl,KG _,ch⟩));by_cases z:j=k
   ·subst z;have:=h.th.symm.trans bi;injection this with this;subst this;refine⟨_,h.yV,eS.2 ⟨_,_,_,rfl,h.l.cap,hl.sl ?_ (by simp) fun b hm=>aJ b (by simp[Li.1 hm])⟩⟩;rw[KN];exact D.cH (D.bV a _ _ (D.bU n _ _ h.fr)) (D.bj.2 (ga.2 ⟨_,_,_,_,_,_,rfl,h.i.cap,h.GK,an.sl (cu _) (by simp) fun b hm=>aJ b (by simp[hm]),(h.lk.ak n).mono a⟩))
   ·obtain⟨u,hu,a5⟩:=h.qQ j x z bi;exact⟨u,hu,D.aL a _ _ (D.aS n _ _ a5)⟩
  ·rcases r b hm with ac|ac
   ·rw[ac];exact aJ O (by simp)
   ·exact .inr ⟨ad,ad⟩
 ·have:=(h.o.ai aN).on J d1;rw[←hX];exact this.aM 2 _
end
theorem ff{P:Nat→Prop}{w Y:World}{B:Nat}{s Q:aj}{q:SV}{M:Nat→Prop}(h:q.Is Y (fun k=>P k∨(B≤k∧k<Y.heap.size)) s)(J:Fr M Y Z)(hM:∀k,M k→¬P k∧k<B)(aZ:∀k,P k→k<Y.heap.size)(aR:w.heap.size≤B)(aw:Ext w Z)(hs:s=Q):cG P w Q b (.returned (.tuple #[.agg (q.val Q),.bool b])) Z:=by
 subst hs;exact⟨q,rfl,(h.ak fun k ap=>J.block k (ap.elim (aZ k) fun h=>h.2) fun hm=>ap.elim (hM k hm).1 fun h=>by have:=(hM k hm).2;omega).mono fun k ap=>ap.imp id fun ap=>⟨ad,by have:=J.size;omega⟩,aw⟩
theorem SV.Is.GJ{P:Nat→Prop}{w V:World}{s:aj}{q:SV}(h:q.Is w P s)(aZ:∀b,P b→b<w.heap.size)(aw:Ext w V):q.Is V P s:=h.ak fun b O=>aw.block b (aZ b O) fun h=>h
theorem wI{P:Nat→Prop}{w:World}{s:aj}{q:SV}(h:q.Is w P s)(aZ:∀b,P b→b<w.heap.size)(aw:Ext w Z):cG P w s b (.returned (.tuple #[.agg (q.val s),.bool b])) Z:=
 ⟨q,rfl,(h.GJ aZ aw).mono fun _ O=>.inl O,aw⟩
theorem RO.Iq{P:Nat→Prop}{B:Nat}{w:World}{s:aj}{k:Nat}{fs:List al}{f:al}{N:Nat}{q:SV}{O lb lc:Nat}{hx cK:List Value}{IA:Ls}{ic:Nat}{S:Ls}{aH:Nat}{F1 F2 a4:List Nat}(h:RO P B w s k fs f N q O lb lc hx cK IA ic S aH F1 F2 a4):Sl w (au w) IA f.ints.length (f.ints.map .i):=
 h.i.sl (cu _) (by simp) fun b O=>(h.lo b (by simp[O])).2
namespace CU
theorem AO(h:p:=by
 exact zF
 ):p:=h
theorem hv(h:p:=by
 have cc:=aB hu (b1.ok aZ) b1;obtain⟨G,R⟩:=aI aZ ht;clear hu b1 aZ ht;dsimp only[UV.val,SV.val];go_enter func14,ntmps14;go_upto_region 1 with(fail);generalize ba:World.alloc _ _=W;have aw:=kq ba;have bF:=jo ba;have b7:=g5 ba;have cA:=jq ba;have ah:=cT aw bF b7 cA (cc.1.on aw) (cc.2.1.on aw);have cY:=aw.size;have dr:=cA.lt;obtain⟨a0,ai,af⟩:=bF.two;obtain⟨a8,am,aF⟩:=b7.two;clear ba aw bF b7 cA;go_wp2_with(fail);refine(uw u s t W ⟨GA,gn,gc,MA,mn,mc,PA,pn,pc⟩ ⟨bS,bL,bD,TA,tn,tc,HA,hn,hc⟩ ah.2.2.2.2.2 R.o).mono ?_;rintro e aS ⟨rfl,aN⟩;have bu:=ae aN;clear a0 ai af a8 am aF;go_upto_region 2 with(fail);generalize hV:World.alloc _ _=V;have bj:Ext W V:=hV▸aN.alloc _;have dm:=bj.size;have z:=ah.2.2.2.1.ai bj;obtain⟨a8,am,aF⟩:=(ah.2.2.1.ai bj).two;obtain⟨bl,aA,aO⟩:=z.two;have cn:=ag bj z;clear hV bj aN z;go_wp2_with(fail);generalize hX:World.setCell _ _ _=Z;obtain⟨bh,a9,be⟩:=bA (w:=w) [.slice bS bL bD,.slice TA tn tc,.slice HA hn hc,.int .i64 s.fault] (by rfl) cn.2 (ah.1.trans cn.1) ad hX;exact AN
 ):p:=h
end CU
open CU in
theorem wD(u:ay)(s:aj)(t:Int)(P:Nat→Prop)(w:World)(p:UV)(q:SV)(hu:p.Ok w u)(b1:q.Is w P s)(aZ:∀b,P b→b<w.heap.size)(ht:ef s t=none) :
  Calls prog 14 #[.agg (p.val u),.agg (q.val s),.int .i64 t] w (cG P w s false):=by
 exact hr
theorem RO.ai{P:Nat→Prop}{B:Nat}{w ab:World}{s:aj}{k:Nat}{fs:List al}{f:al}{N:Nat}{q:SV}{O lb lc:Nat}{hx cK:List Value}{IA:Ls}{ic:Nat}{S:Ls}{aH:Nat}{F1 F2 a4:List Nat}(h:RO P B w s k fs f N q O lb lc hx cK IA ic S aH F1 F2 a4)(aw:Ext w ab):RO P B ab s k fs f N q O lb lc hx cK IA ic S aH F1 F2 a4:=by
 have ap:∀b,b<w.heap.size→ab.heap[b]?=w.heap[b]?:=fun b O=>aw.block b O fun h=>h;have ak:∀b∈N::O::lb::(F1++(F2++a4)),ab.heap[b]?=w.heap[b]?:=fun b O=>ap b (h.lo b O).2;have aR:=(h.lo N (by simp))
 have n:∀b,P b→ab.heap[b]?=w.heap[b]?:=fun b O=>ap b (aD (h.pb b O));refine {th:=h.th,gl:=h.gl,tl:=h.tl,hl:=h.hl,g:=h.g.ak fun b O=>ak b (by simp[O]),t:=h.t.ak fun b O=>ak b (by simp[O]),h:=h.h.ak fun b O=>ak b (by simp[Li.1 O]),mC:=h.mC,qQ:=fun j cL bi b2=>?_,yV:=h.yV,l:=h.l.ak fun b O=>ak b (by simp[Li.1 O]),fr:=D.bU n _ _ h.fr,lk:=h.lk.ak n,GK:=h.GK,i:=h.i.ak fun b O=>ak b (by simp[O]),o:=h.o.ai aw,nd:=h.nd,lo:=fun b O=>⟨(h.lo b O).1,KH (h.lo b O).2 aw.size⟩,pb:=h.pb};obtain⟨u,hu,a5⟩:=h.qQ j cL bi b2;exact⟨u,hu,D.aS n _ _ a5⟩
namespace CV
theorem vj(h:p:=by
 rw[bV.o];exact ff (B:=V.heap.size) bC.1 bd.2.drew (fun b O=>⟨fun hl=>by have:=G.o b hl;omega,ad⟩) (fun b O=>by have:=G.o b O;omega) ad bd.1.drew (by rw[dZ bY.2.1,List.set_set];rfl)
 ):p:=h
theorem dC(h:p:=by
 generalize hX:World.setCell _ _ _=Y;have n:=cC.o;rw[hX] at n;have ar:=cL hX;have i:Ext V Y:=Fr.low (M:=fun b=>b=I) (Fr.trans (Fr.mono y.2.1 fun _ h=>h.elim) ar) fun b O=>ad;have bC:=aB n.is n.o (cn.trans i);have aD:=i.size;clear hX n ar i a8 am aF d0 aL aM e0 a6 aP c0 c1 c2 c3 H flb J bi cV;exact vi
 ):p:=h
theorem z8(h:p:=by
 clear bZ bX a8 am aF;exact Gd
 ):p:=h
theorem sc(h:p:=by
 clear cr dl aY;rcases cg.o with h|h
 all_goals
  first
   | have q1:(x.op == 1)=true:=by simpa using h
   | have q1:(x.op == 1)=false:=by simp;omega
  first
   | have cB:(x.op == 2)=true:=by simpa using h
   | have cB:(x.op == 2)=false:=by simp;omega
  first
   | have dd:(x.op == 3)=true:=by simpa using h
   | have dd:(x.op == 3)=false:=by simp;omega
  first
   | have df:(x.op == 4)=true:=by simpa using h
   | have df:(x.op == 4)=false:=by simp;omega
  first
   | have q5:(x.op == 5)=true:=by simpa using h
   | have q5:(x.op == 5)=false:=by simp;omega
  first
   | have di:(x.op == 6)=true:=by simpa using h
   | have di:(x.op == 6)=false:=by simp;omega
  first
   | have q7:(x.op == 7)=true:=by simpa using h
   | have q7:(x.op == 7)=false:=by simp;omega
  first
   | have dH:(x.op == 8)=true:=by simpa using h
   | have dH:(x.op == 8)=false:=by simp;omega
  have T:=ae h;clear h;go_upto_region 12 with(fail);refine eK (fun _=>False) [(0,3),(1,0),(2,3),(3,0),(4,3),(5,3),(6,3),(7,0),(8,2),(9,3),(10,3),(11,3),(12,3),(13,3)] ?_;refine pf ?_;refine ph ?_;refine pf ?_;refine ph ?_
  iterate 3 refine pf ?_
  refine ph ?_;refine ax rfl (fun K hK=>?_);go_simp;have aa:Ext X X.drew:=(Fr.refl _ X).drew;have bv:=aQ.2.2.trans aa;have bI:(bk ex).rep X.drew (au X.drew) [.int .i64 eo,.int .i64 en,.string es,.slice EA em ec]:=by
   have:=(dE.on (aQ.2.1.trans aa)).expr;rw[aJ.2.1] at this;exact this
  obtain⟨bq,cv⟩:=l.Ff aJ.1 (ah.2.2.2.2.2.on bv).at_.g (aQ.1.Iq.on (Fr.ext aa)) bI;refine(ny ex X.drew bS du bL f.ints.length bD c8 s.globals f.ints _ _ _ _ bq cv).mono ?_;rintro e cN ⟨rfl,bu⟩;have cw:Ext X cN:=Fr.aF (Fr.of bu);have cj:=ae (aQ.2.2.trans cw);have dn:=bw.o;generalize ev s.globals f.ints ex=R at *;obtain⟨r,z⟩:=R;have S:=ae dn;have aX:=RO.ai aQ.1 cw;have y:=aB aX (aQ.2.1.trans cw) (aQ.2.2.trans cw);have cz:=cw.size;clear dn aa bv bI bq cv bu cw a0 ai af a8 am aF d0 aL aM e0 a6 aP c0 c1 c2 c3 H flb J;obtain⟨a8,am,aF⟩:=(ah.2.2.1.ai cj.o).two;obtain⟨d0,aL,aM⟩:=(b3.ai y.2.1).two;obtain⟨e0,a6,aP⟩:=aX.o.two;obtain⟨b0,bE,flb,J,H,c0,c1,c2,c3,bP⟩:=aX.top;clear aX;refine dO hK ?_;clear hK K
  iterate 5 refine pf ?_
  refine aE ?_;by_cases bt:z=0
  case neg=>
   have cD:(z != 0)=true:=by simpa using bt
   have bV:=ae (S.bad bt);exact z7
  have cD:(z != 0)=false:=by simpa using bt
  have bb:=ae bt;clear bt
 ·
  cases a2:x.dg with
  | true=>
   have bV:=ae (S.gl bb.o T.o a2);rw[a2] at d0;have bJ:=aJ.2.2.1 T.o a2;have bG:=aJ.2.2.2.2;have aR:=y.1.gl;simp only at aR;have bU:x.target<(cu:Int):=ad;obtain⟨ck,bo,da,bi,⟨cO,cV⟩,cW,cQ,ap⟩:=y.1.dg (j:=x.target.toNat) (by show x.target.toNat<cu;omega);simp only at bo;subst bo;have cC:=ae (ap r);clear bJ bG aR ap a2;go_upto_region 45 with(fail);generalize hX:World.setCell _ _ _=Y;have n:=cC.o;rw[hX] at n;have ar:=cL hX;have i:Ext V Y:=Fr.low (M:=fun b=>b=ck) (Fr.trans (Fr.mono y.2.1 fun _ h=>h.elim) ar) fun b O=>ad;have bC:=aB n.is n.o (cn.trans i);have aD:=i.size;clear hX n ar i a8 am aF d0 aL aM e0 a6 aP c0 c1 c2 c3 H flb J bi cV;have aW:=ag (ah.2.2.2.1.ai bC.2.2) (ah.1.trans bC.2.2);have cZ:=bC.2.2.size;obtain⟨bl,aA,aO⟩:=aW.1.two;obtain⟨e0,a6,aP⟩:=bC.2.1.two;go_wp2_with(fail);generalize hX:World.setCell _ _ _=Z;obtain⟨bh,a9,be⟩:=bA (w:=w) [.slice (some ⟨ck,0,none⟩) cu bc,.slice ab m L,.slice (some ⟨O,0,none⟩) ct a3,.int .i64 s.fault] (by rfl) aW.1 aW.2 ad hX;have bd:=ag a9 be;clear hX a9 be bl aA aO e0 a6 aP;obtain⟨bl,aA,aO⟩:=bh.two;refine Ln (v:=.tuple #[.agg #[.slice (some ⟨ck,0,none⟩) cu bc,.slice ab m L,.slice (some ⟨O,0,none⟩) ct a3,.int .i64 s.fault],.bool true]) (by simp[results,Tryz.results14,go_sem,bl]) rfl ?_
   exact C4
  | false=>
   have bV:=ae (S.lo bb.o T.o a2);rw[a2] at d0;have ak:=aJ.2.2.2.1 T.o a2;have b4:x.target<((next f).ints.length:Int):=ak;obtain⟨I,br,da,bi,⟨cO,cV⟩,cW,cQ,hints⟩:=y.1.ints (j:=x.target.toNat) (by show x.target.toNat<f.ints.length;omega);subst br;have cC:=ae (hints r);clear hints a2;go_upto_region 20 with(fail);exact Ba
 ·
  by_cases a5:r=0
  ·have EL:(r == 0)=true:=by simpa using a5
   have bV:=ae (S.bz bb.o T.o a5);clear a5;go_upto_region 45 with(fail);generalize hX:World.setCell _ _ _=Y;have n:=y.1.pc x.target;rw[hX] at n;have ar:=cL hX;have i:Ext V Y:=Fr.low (M:=fun b=>b=lb) (Fr.trans (Fr.mono y.2.1 fun _ h=>h.elim) ar) fun b O=>ad;have bC:=aB n.is n.o (cn.trans i);have aD:=i.size;clear hX n ar i a8 am aF d0 aL aM e0 a6 aP c0 c1 c2 c3 H flb J;exact F8
  ·have EL:(r == 0)=false:=by simpa using a5
   have bV:=ae (S.bn bb.o T.o a5);clear a5;have bC:=aB y.1.is y.1.o y.2.2;clear e0 a6 aP c0 c1 c2 c3 H flb J;have aW:=ag (ah.2.2.2.1.ai bC.2.2) (ah.1.trans bC.2.2);have cZ:=bC.2.2.size;obtain⟨bl,aA,aO⟩:=aW.1.two;obtain⟨e0,a6,aP⟩:=bC.2.1.two;go_wp2_with(fail);generalize hX:World.setCell _ _ _=Z;obtain⟨bh,a9,be⟩:=bA (w:=w) [.slice bH cu bc,.slice ab m L,.slice (some ⟨O,0,none⟩) ct a3,.int .i64 s.fault] (by rfl) aW.1 aW.2 ad hX;have bd:=ag a9 be;clear hX a9 be bl aA aO e0 a6 aP;obtain⟨bl,aA,aO⟩:=bh.two;refine Ln (v:=.tuple #[.agg #[.slice bH cu bc,.slice ab m L,.slice (some ⟨O,0,none⟩) ct a3,.int .i64 s.fault],.bool true]) (by simp[results,Tryz.results14,go_sem,bl]) rfl ?_;exact C4
 ):p:=h
theorem se(h:p:=by
 exact sb
 ):p:=h
theorem Az(h:p:=by
 have bw:=ae (JH (u:=u) (s:=s) (t:=t) (f:=f) hex cy);have bg:=h.hS.dg;have aJ:=cI aK hex bO a1 bg;clear an hlen aK hex bO a1 bg;exact sd
 ):p:=h
theorem si(h:p:=by
 exact Ay
 ):p:=h
end CV
open CV in
theorem qx(u:ay)(s:aj)(t:Int)(f:al)(cq:cJ)(x:az)(N:Nat)(P:Nat→Prop)(w:World)(p:UV)(q:SV)(h:jO u s t f cq x N)(hN:N≤100000)(cy:x.op=1∨x.op=6)(hu:p.Ok w u)(b1:q.Is w P s)(aZ:∀b,P b→b<w.heap.size) :
  Calls prog 14 #[.agg (p.val u),.agg (q.val s),.int .i64 t] w (cG P w (bW u s t f x).1 (bW u s t f x).2):=by
 exact sf
end Go.Proofs.YtnhhdaggkiomoaaGreat

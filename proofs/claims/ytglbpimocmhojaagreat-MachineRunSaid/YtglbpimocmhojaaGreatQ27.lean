/- Part 27 of the proof. No condition of its own. -/
import Derived.Test.YtglbpimocmhojaaGreatQ26
namespace Go.Proofs.YtglbpimocmhojaaGreat
open Go.RowKit Go.Proofs.Tryz
set_option maxRecDepth 1000000
set_option maxHeartbeats 25600000
set_option linter.unusedVariables false
variable{b:Bool}{y:Nat->Prop}{p:Prop}{Z:World}{R:al}
theorem mO{α:Type}{enc:α->D}{w:World}{P:Nat->Prop}:∀(l:List α) (xs:List Value),xs.length=l.length->(∀(j:Nat) (x:α),l[j]?=some x->∃u,xs[j]?=some u/\(enc x).rep w P [u])->D.aQ w P (l.map enc) xs
 | [],[],_,_=>aP.2 rfl
 | [],_::_,h,_=>by simp at h
 | _::_,[],h,_=>by simp at h
 | a::l,v::xs,h,hp=>by
  obtain⟨u,hu,a5⟩:=hp 0 a rfl;simp only[List.getElem?_cons_zero,Lg] at hu;subst hu;exact dD.2 ⟨[v],xs,rfl,a5,mO l xs (by simpa using h) λj x hx=>by simpa using hp (j+1) x (by simpa using hx)⟩
section
variable {P:Nat->Prop} {B:Nat} {w ab:World} {s Q:aj} {k:Nat} {fs:List al} {f a6:al} {N:Nat} {q:SV} {O lb lc:Nat} {hx cN:List Value} {IA:Lp} {ic:Nat} {S:Lp} {aG:Nat} {F1 F2 a4:List Nat}
theorem RO.JH(h:RO P B w s k fs f N q O lb lc hx cN IA ic S aG F1 F2 a4):q.Is w (λb=>P b\/(B<=b/\b<w.heap.size/\b≠N)) s:=by
 have br:=h.lo;have aI:∀b∈O::lb::(F1++(F2++a4)),P b\/(B<=b/\b<w.heap.size/\b≠N):=λb hm=>.inr ⟨(br b (List.mem_cons_of_mem _ hm)).1,(br b (List.mem_cons_of_mem _ hm)).2,λhe=>(List.nodup_cons.1 h.nd).1 (he▸hm)⟩;have a:∀b,P b->P b\/(B<=b/\b<w.heap.size/\b≠N):=λb O=>.inl O;refine⟨⟨?_,?_,?_⟩,h.g.cap,h.t.cap,h.h.cap⟩
 .exact h.g.sl (ct _) (by rw[KH];exact h.gl.symm) λb O=>aI b (by simp[O])
 .exact h.t.sl (dw _) (by rw[KH];exact h.tl.symm) λb O=>aI b (by simp[O])
 .have cm:hx.length=s.threads.length:=by have:=h.h.row.1;rw[Nat.mul_one] at this;rw[this];exact h.hl
  refine h.h.sl (mO _ _ cm λj x bi=>?_) (by rw[KH];exact h.hl.symm) λb O=>aI b (by simp[Lf.1 O]);by_cases z:j=k
  .subst z;have:=h.th.symm.trans bi;injection this with this;subst this;refine⟨_,h.yN,eS.2 ⟨_,_,_,rfl,h.l.cap,h.l.sl ?_ (by simp) λb O=>aI b (by simp[Lf.1 O])⟩⟩;rw[KK];exact D.cG (D.bV a _ _ h.fr) (D.bj.2 (gb.2 ⟨_,_,_,_,_,_,rfl,h.i.cap,h.GF,h.i.sl (ct _) (by simp) λb O=>aI b (by simp[O]),h.lk.mono a⟩))
  .obtain⟨u,hu,a5⟩:=h.qL j x z bi;exact⟨u,hu,D.aL a _ _ a5⟩
theorem RO.is(h:RO P B w s k fs f N q O lb lc hx cN IA ic S aG F1 F2 a4):q.Is w (λb=>P b\/(B<=b/\b<w.heap.size)) s:=h.JH.mono λb O=>O.imp id λO=>⟨O.1,O.2.1⟩
theorem RO.I1(h:RO P B w s k fs f N q O lb lc hx cN IA ic S aG F1 F2 a4){g:Nat}(a2:g∈lb::(F1++(F2++a4)))(bZ:ab.heap.size=w.heap.size)(ap:∀b,b≠g->ab.heap[b]?=w.heap[b]?)
  (c:∀j,j≠k->Q.threads[j]?=s.threads[j]?) (aL:Q.threads[k]?=some (fs++[a6])) (ck:Q.globals.length=s.globals.length) (cu:Q.table.length=s.table.length) (bG:Q.threads.length=s.threads.length) (E:Q.fault=s.fault) (cd:a6.au=f.au)
  (hG:Own ab 3 1 q.GA q.gn q.gc (Q.globals.map dc) F1) (hT:Own ab 107 2 q.TA q.tn q.tc (Q.table.flatMap bH) F2)
  (bR:Own ab 75 4 (some ⟨lb,0,none⟩) (fs.length+1) lc (cN++[.int .i64 a6.proc,.int .i64 a6.pc,.slice IA a6.ints.length ic,.slice S a6.au.length aG]) [lb])
  (hI:Own ab 3 1 IA a6.ints.length ic (a6.ints.map dc) a4):RO P B ab Q k fs a6 N q O lb lc hx cN IA ic S aG F1 F2 a4:=by
 have n1:=List.nodup_cons.1 h.nd;have n2:=List.nodup_cons.1 n1.2;have I:N≠g:=λhe=>n1.1 (by rw[he];exact List.mem_cons_of_mem _ a2);have a:O≠g:=λhe=>n2.1 (by rw[he];exact a2);have dn:B<=g:=(h.lo g (by simp only[KT] at a2 ⊢;exact .inr (.inr a2))).1;have n:∀b,P b->ab.heap[b]?=w.heap[b]?:=λb O=>ap b (aC (h.pb b O));refine {th:=aL,gl:=h.gl.trans ck.symm,tl:=h.tl.trans cu.symm,hl:=h.hl.trans bG.symm,g:=hG,t:=hT,h:=h.h.ak λb O=>ap b (by rw[Lf.1 O];exact a),mB:=h.mB,qL:=λj cM bi b6=>?_,yN:=h.yN,l:=bR,fr:=D.bU n _ _ h.fr,lk:=by rw[cd];exact h.lk.ak n,GF:=by rw[cd];exact h.GF,i:=hI,o:=?_,nd:=h.nd,lo:=λb O=>by rw[bZ];exact h.lo b O,pb:=h.pb}
 .obtain⟨u,hu,a5⟩:=h.qL j cM bi ((c j bi).symm.trans b6);exact⟨u,hu,D.aS n _ _ a5⟩
 .have:=(ap N I).trans h.o;unfold SV.val at this ⊢
  rwa [E]
namespace CH
theorem vo(h:p:=by
 obtain⟨g,bw,-,-,-,-,hs⟩:=h.l.block ad;obtain rfl:lb=g:=by simpa using bw
 have L:=hs (fs.length*4+1) (.int .i64 v) ad;rw[List.set_append_right _ _ ad,ar,Nat.add_sub_cancel_left] at L;exact h.I1 (g:=lb) (by simp) (by simp[World.setCell]) (λb O=>aR O) (λj bi=>by simp[Ne.symm bi]) (by simp[ak]) rfl rfl (by simp) rfl rfl
  (h.g.ak λb O=>aR (hn b (by simp[O]))) (h.t.ak λb O=>aR (hn b (by simp[O]))) L (h.i.ak λb O=>aR (hn b (by simp[O])))
 ):p:=h
end CH
open CH in
theorem RO.pc(h:RO P B w s k fs f N q O lb lc hx cN IA ic S aG F1 F2 a4)(v:Int) :
  RO P B (w.setCell ⟨lb,fs.length*4+1,none⟩ (.int .i64 v)) {s with threads:=s.threads.set k (fs++[{f with pc:=v}])} k fs {f with pc:=v} N q O lb lc hx cN IA ic S aG F1 F2 a4:=by
 have ak:=(List.getElem?_eq_some_iff.1 h.th).1;have n1:=List.nodup_cons.1 (List.nodup_cons.1 (List.nodup_cons.1 h.nd).2).2;have hn:∀b∈F1++(F2++a4),b≠lb:=λb O he=>n1.1 (he▸O);exact vn
namespace CI
theorem vo(h:p:=by
 have cm:k<q.hn:=by rw[h.hl];exact ak
 obtain⟨g,bw,-,hl,hc,J,-⟩:=h.l.block ad;obtain rfl:lb=g:=by simpa using bw
 obtain⟨g2,a3,-,cg,ci,az,-⟩:=h.h.block ad;obtain rfl:O=g2:=by have:=h.mB.symm.trans a3;simpa using this
 refine⟨hl,cg,J,az,ci _ _ h.yN,hc _ _ ?_,hc _ _ ?_,hc _ _ ?_,hc _ _ ?_,cm⟩<;>rw[<-ar,List.getElem?_append_right ad]<;>simp
 ):p:=h
end CI
open CI in
theorem RO.top(h:RO P B w s k fs f N q O lb lc hx cN IA ic S aG F1 F2 a4):lb<w.heap.size/\O<w.heap.size/\(∀j,w.frozen? ⟨lb,j,none⟩=false)/\(∀j,w.frozen? ⟨O,j,none⟩=false)/\w.cell? ⟨O,k,none⟩=some (.slice (some ⟨lb,0,none⟩) (fs.length+1) lc)/\w.cell? ⟨lb,fs.length*4,none⟩=some (.int .i64 f.proc)/\w.cell? ⟨lb,fs.length*4+1,none⟩=some (.int .i64 f.pc)/\
  w.cell? ⟨lb,fs.length*4+2,none⟩=some (.slice IA f.ints.length ic)/\w.cell? ⟨lb,fs.length*4+3,none⟩=some (.slice S f.au.length aG)/\k<q.hn:=by
 have ak:=(List.getElem?_eq_some_iff.1 h.th).1;exact vn
theorem RO.ints(h:RO P B w s k fs f N q O lb lc hx cN IA ic S aG F1 F2 a4){j:Nat}(bi:j<f.ints.length):∃I,IA=some ⟨I,0,none⟩/\I<w.heap.size/\w.frozen? ⟨I,j,none⟩=false/\(∃u,w.cell? ⟨I,j,none⟩=some u)/\I≠N/\B<=I/\
  ∀v,RO P B (w.setCell ⟨I,j,none⟩ (.int .i64 v)) {s with threads:=s.threads.set k (fs++[{f with ints:=f.ints.set j v}])} k fs {f with ints:=f.ints.set j v} N q O lb lc hx cN IA ic S aG F1 F2 a4:=by
 have ak:=(List.getElem?_eq_some_iff.1 h.th).1;obtain⟨I,dl,rfl,cg,hc,J,hs⟩:=h.i.block ad;have hm:I∈N::O::lb::(F1++(F2++[I])):=by simp
 have n1:=List.nodup_cons.1 h.nd;have hn:∀b∈lb::(F1++F2),b≠I:=by
  have:=eF (A:=lb::(F1++F2)) (B:=[]) (x:=I) (by simpa[KR] using (List.nodup_cons.1 n1.2).2);simpa using this
 refine⟨I,dl,cg,J j,⟨_,hc j (dc f.ints[j]) (by simp[bi])⟩,λhe=>n1.1 (by rw[he];simp),(h.lo I hm).1,λv=>?_⟩;have L:=hs j (.int .i64 v) ad;refine h.I1 (g:=I) (by simp) (by simp[World.setCell]) (λb O=>aR O) (λj bi=>by simp[Ne.symm bi]) (by simp[ak]) rfl rfl (by simp) rfl rfl
  (h.g.ak λb O=>aR (hn b (by simp[O]))) (h.t.ak λb O=>aR (hn b (by simp[O]))) ?_ ?_
 .simp only[List.length_set];exact h.l.ak λb O=>aR (hn b (by simp[Lf.1 O]))
 .simp only[List.length_set];rw[pS];exact L
theorem RO.dg(h:RO P B w s k fs f N q O lb lc hx cN IA ic S aG F1 F2 a4){j:Nat}(bi:j<q.gn):∃bZ,q.GA=some ⟨bZ,0,none⟩/\bZ<w.heap.size/\w.frozen? ⟨bZ,j,none⟩=false/\(∃u,w.cell? ⟨bZ,j,none⟩=some u)/\bZ≠N/\B<=bZ/\
  ∀v,RO P B (w.setCell ⟨bZ,j,none⟩ (.int .i64 v)) {s with globals:=s.globals.set j v} k fs f N q O lb lc hx cN IA ic S aG F1 F2 a4:=by
 obtain⟨bZ,y,rfl,ck,hc,J,hs⟩:=h.g.block ad;have hm:bZ∈N::O::lb::([bZ]++(F2++a4)):=by simp
 have n1:=List.nodup_cons.1 h.nd;have hn:∀b∈lb::(F2++a4),b≠bZ:=by
  have:=eF (A:=[lb]) (B:=F2++a4) (x:=bZ) (by simpa using (List.nodup_cons.1 n1.2).2);simpa using this
 have aU:j<s.globals.length:=by rw[<-h.gl];exact bi
 refine⟨bZ,y,ck,J j,⟨_,hc j (dc s.globals[j]) (by simp[aU])⟩,λhe=>n1.1 (by rw[he];simp),(h.lo bZ hm).1,λv=>?_⟩;have L:=hs j (.int .i64 v) ad;rw[<-show (.int .i64 v:Value)=.int .i64 v from rfl] at L;refine h.I1 (g:=bZ) (by simp) (by simp[World.setCell]) (λb O=>aR O) (λ_ _=>rfl) h.th (by simp) rfl rfl rfl rfl
  ?_ (h.t.ak λb O=>aR (hn b (by simp[O]))) (h.l.ak λb O=>aR (hn b (by simp[Lf.1 O]))) (h.i.ak λb O=>aR (hn b (by simp[O])))
 show Own _ 3 1 q.GA q.gn q.gc ((s.globals.set j v).map dc) [bZ]
 rw[pS];exact L
end
section
variable {P:Nat->Prop} {B:Nat} {w ab X:World} {s Q:aj} {k:Nat} {fs:List al} {f a6:al} {N:Nat} {q:SV} {O lb lc:Nat} {hx cN:List Value} {IA:Lp} {ic:Nat} {S:Lp} {aG:Nat} {F1 F2 a4:List Nat}
theorem RO.sep(h:RO P B w s k fs f N q O lb lc hx cN IA ic S aG F1 F2 a4):N≠O/\N≠lb/\O≠lb/\(∀b∈F1++(F2++a4),b≠N/\b≠O/\b≠lb)/\∀b,P b->b<w.heap.size/\b≠N/\b≠O/\b≠lb:=by
 have n1:=List.nodup_cons.1 h.nd;have n2:=List.nodup_cons.1 n1.2;have n3:=List.nodup_cons.1 n2.2;refine⟨λhe=>n1.1 (by rw[he];simp),λhe=>n1.1 (by rw[he];simp),λhe=>n2.1 (by rw[he];simp),λb hm=>⟨λhe=>n1.1 (he▸?_),λhe=>n2.1 (he▸?_),λhe=>n3.1 (he▸hm)⟩,λb hm=>?_⟩
 .exact List.mem_cons_of_mem _ (List.mem_cons_of_mem _ hm)
 .exact List.mem_cons_of_mem _ hm
 .have ac:=h.pb b hm;have au:=h.lo N (by simp);have aU:=h.lo O (by simp);have bE:=h.lo lb (by simp);omega
theorem RO.fin(h:RO P B w s k fs f N q O lb lc hx cN IA ic S aG F1 F2 a4)(bZ:w.heap.size<=X.heap.size)(ap:∀b,b<w.heap.size->b≠O->b≠lb->X.heap[b]?=w.heap[b]?){T:List al}{v:Value}
  (vM:Own X 79 1 q.HA q.hn q.hc (hx.set k v) [O]) (bI:(jP T).rep X (λb=>P b\/(B<=b/\b<X.heap.size)) [v]) :
  q.Is X (λb=>P b\/(B<=b/\b<X.heap.size)) {s with threads:=s.threads.set k T}/\aq X N 40 (q.val s):=by
 obtain⟨d1,d2,d3,o,g⟩:=h.sep;have br:=h.lo;have aI:∀b∈N::O::lb::(F1++(F2++a4)),P b\/(B<=b/\b<X.heap.size):=λb O=>.inr ⟨(br b O).1,by have:=(br b O).2;omega⟩;have i:∀b∈F1++(F2++a4),X.heap[b]?=w.heap[b]?:=λb O=>ap b (br b (List.mem_cons_of_mem _ (List.mem_cons_of_mem _ (List.mem_cons_of_mem _ O)))).2 (o b O).2.1 (o b O).2.2;have n:∀b,P b->X.heap[b]?=w.heap[b]?:=λb O=>ap b (g b O).1 (g b O).2.2.1 (g b O).2.2.2;have a:∀b,P b->P b\/(B<=b/\b<X.heap.size):=λb O=>.inl O;have cm:hx.length=s.threads.length:=by have:=h.h.row.1;rw[Nat.mul_one] at this;rw[this];exact h.hl
 have ak:=(List.getElem?_eq_some_iff.1 h.th).1;refine⟨⟨⟨?_,?_,?_⟩,h.g.cap,h.t.cap,h.h.cap⟩,(ap N (br N (by simp)).2 d1 d2).trans h.o⟩
 .exact(h.g.ak λb O=>i b (by simp[O])).sl (ct _) (by rw[KH];exact h.gl.symm) λb O=>aI b (by simp[O])
 .exact(h.t.ak λb O=>i b (by simp[O])).sl (dw _) (by rw[KH];exact h.tl.symm) λb O=>aI b (by simp[O])
 .refine vM.sl (mO _ _ (by simpa using cm) λj x bi=>?_) (by simp only[KH,List.length_set];exact h.hl.symm) λb O=>aI b (by simp[Lf.1 O]);by_cases z:j=k
  .subst z;rw[List.getElem?_set_self ak] at bi;injection bi with bi;subst bi;exact⟨v,List.getElem?_set_self ad,bI⟩
  .rw[List.getElem?_set_ne (Ne.symm z)] at bi;obtain⟨u,hu,a5⟩:=h.qL j x z bi;exact⟨u,by rw[List.getElem?_set_ne (Ne.symm z)];exact hu,D.aL a _ _ (D.aS n _ _ a5)⟩
theorem RO.vM(h:RO P B w s k fs f N q O lb lc hx cN IA ic S aG F1 F2 a4)(v:Value):Own (w.setCell ⟨O,k,none⟩ v) 79 1 q.HA q.hn q.hc (hx.set k v) [O]:=by
 have ak:=(List.getElem?_eq_some_iff.1 h.th).1;have cm:k<q.hn:=by rw[h.hl];exact ak
 obtain⟨g2,a3,-,-,-,-,hs⟩:=h.h.block ad;obtain rfl:O=g2:=by have:=h.mB.symm.trans a3;simpa using this
 exact hs k v ad
namespace CK
theorem vo(h:p:=by
 have hc:=h.l.cap;have hl:=(h.l.shorter (m:=fs.length) ad ad).ak (ab:=X) λb O=>ax b (by rw[Lf.1 O];exact Ne.symm d3);rw[List.take_append_of_le_length ad,KL ad] at hl;refine h.fin ad (λb _ ac _=>ax b ac) (by rw[<-hX];exact h.vM _) (eS.2 ⟨_,fs.length,lc,rfl,ad,hl.sl (D.bV (λb O=>.inl O) _ _ (D.bU (λb O=>ax b (g b O).2.2.1) _ _ h.fr)) (by simp) λb aV=>.inr ?_⟩);rw[Lf.1 aV,H];exact h.lo lb (by simp)
 ):p:=h
end CK
open CK in
theorem RO.drop(h:RO P B w s k fs f N q O lb lc hx cN IA ic S aG F1 F2 a4)(hX:w.setCell ⟨O,k,none⟩ (.slice (some ⟨lb,0,none⟩) fs.length lc)=X) :
  q.Is X (λb=>P b\/(B<=b/\b<X.heap.size)) {s with threads:=s.threads.set k fs}/\aq X N 40 (q.val s):=by
 obtain⟨d1,d2,d3,o,g⟩:=h.sep;have H:X.heap.size=w.heap.size:=by rw[<-hX];simp[World.setCell]
 have ax:∀b,b≠O->X.heap[b]?=w.heap[b]?:=λb O=>by rw[<-hX];exact aR O
 exact vn
theorem RO.push(h:RO P B w s k fs f N q O lb lc hx cN IA ic S aG F1 F2 a4){cs:List Value}(cX:(er R).rep w y cs)(c:∀b,y b->B<=b/\b<w.heap.size/\b≠O/\b≠lb)
  {I:Lp} {aJ:Nat} {aT:World} (a5:Own aT 75 4 I (fs.length+2) aJ (cN++[.int .i64 f.proc,.int .i64 f.pc,.slice IA f.ints.length ic,.slice S f.au.length aG]++cs) (bq I (fs.length+2) aJ))
  (cb:Fr (λb=>b=lb) w aT) (r:∀b∈bq I (fs.length+2) aJ,b=lb\/(w.heap.size<=b/\b<aT.heap.size)) (hX:aT.setCell ⟨O,k,none⟩ (.slice I (fs.length+2) aJ)=X) :
  q.Is X (λb=>P b\/(B<=b/\b<X.heap.size)) {s with threads:=s.threads.set k (fs++[f]++[R])}/\aq X N 40 (q.val s):=by
 obtain⟨d1,d2,d3,o,g⟩:=h.sep;have bN:=cb.size;have H:X.heap.size=aT.heap.size:=by rw[<-hX];simp[World.setCell]
 have ax:∀b,b<w.heap.size->b≠O->b≠lb->X.heap[b]?=w.heap[b]?:=λb hl ac au=>by rw[<-hX];exact(aR ac).trans (cb.block b hl au)
 have T:=(h.lo O (by simp)).2;have d:∀b∈bq I (fs.length+2) aJ,b≠O:=λb aV=>by
  rcases r b aV with ac|ac
  .rw[ac];exact Ne.symm d3
  .omega
 have e:=a5.ak (ab:=X) λb aV=>by rw[<-hX];exact aR (d b aV)
 have n:∀b,P b->X.heap[b]?=w.heap[b]?:=λb O=>ax b (g b O).1 (g b O).2.2.1 (g b O).2.2.2;have a:∀b,P b->P b\/(B<=b/\b<X.heap.size):=λb O=>.inl O;have aI:∀b∈N::O::lb::(F1++(F2++a4)),P b\/(B<=b/\b<X.heap.size):=λb O=>.inr ⟨(h.lo b O).1,by have:=(h.lo b O).2;omega⟩;have an:=h.i.ak (ab:=X) λb O=>ax b (h.lo b (by simp[O])).2 (o b (by simp[O])).2.1 (o b (by simp[O])).2.2;have vM:Own X 79 1 q.HA q.hn q.hc (hx.set k (.slice I (fs.length+2) aJ)) [O]:=by
  have ac:Own aT 79 1 q.HA q.hn q.hc hx [O]:=h.h.ak λb aV=>cb.block b (by rw[Lf.1 aV];exact T) (by rw[Lf.1 aV];exact d3);have ak:=(List.getElem?_eq_some_iff.1 h.th).1;have cm:k<q.hn:=by rw[h.hl];exact ak
  obtain⟨g2,a3,-,-,-,-,hs⟩:=ac.block ad;obtain rfl:O=g2:=by have:=h.mB.symm.trans a3;simpa using this
  rw[<-hX];exact hs k _ ad
 refine h.fin ad ax vM (eS.2 ⟨_,_,_,rfl,e.cap,e.sl ?_ (by simp) λb aV=>?_⟩)
 .rw[KK,KK];refine D.cG (D.cG (D.bV a _ _ (D.bU n _ _ h.fr)) (D.bj.2 (gb.2 ⟨_,_,_,_,_,_,rfl,h.i.cap,h.GF,an.sl (ct _) (by simp) λb O=>aI b (by simp[O]),(h.lk.ak n).mono a⟩))) (D.bj.2 ?_);exact D.aL (λb O=>.inr (⟨(c b O).1,by have:=(c b O).2.1;omega⟩:B<=b/\b<X.heap.size)) _ _ (D.aS (λb O=>ax b (c b O).2.1 (c b O).2.2.1 (c b O).2.2.2) _ _ cX)
 .rcases r b aV with ac|ac
  .rw[ac];exact aI lb (by simp)
  .have:=(h.lo O (by simp));exact .inr ⟨ad,ad⟩
end
section
variable {P:Nat->Prop} {B:Nat} {w ab X:World} {s Q:aj} {k:Nat} {fs:List al} {f a6:al} {N:Nat} {q:SV} {O lb lc:Nat} {hx cN:List Value} {IA:Lp} {ic:Nat} {S:Lp} {aG:Nat} {F1 F2 a4:List Nat}
theorem RO.HQ(h:RO P B w s k fs f N q O lb lc hx cN IA ic S aG F1 F2 a4){PT:Nat->Prop}{I:Lp}{aP aJ:Nat}{T:List cy}(hT:Sl w PT I aP (T.map lh))(hn:aP<=aJ)(a:∀b,PT b->P b\/(B<=b/\b<w.heap.size/\b≠N))(hX:w.setCell ⟨N,1,none⟩ (.slice I aP aJ)=X):
  let ar:SV:=⟨q.GA,q.gn,q.gc,I,aP,aJ,q.HA,q.hn,q.hc⟩
  let Q:aj:={s with table:=T}
  ar.Is X (λb=>P b\/(B<=b/\b<X.heap.size)) Q/\aq X N 40 (ar.val Q):=by
 intro ar Q;have H:X.heap.size=w.heap.size:=by rw[<-hX];simp[World.setCell]
 have ap:∀b,(P b\/(B<=b/\b<w.heap.size/\b≠N))->X.heap[b]?=w.heap[b]?:=λb hm=>by
  rw[<-hX];refine aR ?_;rcases hm with hm|hm
  .exact(h.sep.2.2.2.2 b hm).2.1
  .exact hm.2.2
 have an:=h.JH.ak ap;have hm:∀b,(P b\/(B<=b/\b<w.heap.size/\b≠N))->P b\/(B<=b/\b<X.heap.size):=λb O=>O.imp id λO=>⟨O.1,by rw[H];exact O.2.1⟩
 refine⟨⟨⟨an.at_.g.mono hm,(hT.ak λb O=>ap b (a b O)).mono λb O=>hm b (a b O),an.at_.h.mono hm⟩,an.gc,hn,an.hc⟩,?_⟩;rw[<-hX];exact h.o.aM 1 _
theorem RO.start(h:RO P B w s k fs f N q O lb lc hx cN IA ic S aG F1 F2 a4){c0 c1 c2 c3:Value}(cX:(er R).rep w y [c0,c1,c2,c3])(c:∀b,y b->B<=b/\b<w.heap.size/\b≠O/\b≠N)
  {aS aT:World} (ao:w.alloc (.cells #[c0,c1,c2,c3] 75)=aS) {I:Lp} {aJ:Nat}
  (a5:Own aT 79 1 I (q.hn+1) aJ (hx++[.slice (some ⟨w.heap.size,0,none⟩) 1 1]) (bq I (q.hn+1) aJ)) (J:Fr (λb=>b=O) aS aT) (r:∀b∈bq I (q.hn+1) aJ,b=O\/(aS.heap.size<=b/\b<aT.heap.size))
  (hX:aT.setCell ⟨N,2,none⟩ (.slice I (q.hn+1) aJ)=X) :
  let ar:SV:=⟨q.GA,q.gn,q.gc,q.TA,q.tn,q.tc,I,q.hn+1,aJ⟩
  let Q:aj:={s with threads:=s.threads++[[R]]}
  ar.Is X (λb=>P b\/(B<=b/\b<X.heap.size)) Q/\aq X N 40 (ar.val Q):=by
 intro ar Q;obtain⟨d1,d2,d3,o,g⟩:=h.sep;have dF:aS.heap.size=w.heap.size+1:=by rw[<-ao];simp
 have aN:=aX ao;have v:=aK ao;have bN:=J.size;have H:X.heap.size=aT.heap.size:=by rw[<-hX];simp[World.setCell]
 have c8:=h.lo N (by simp);have dm:=h.lo O (by simp);have bj:=h.lo lb (by simp);have ax:∀b,b<aS.heap.size->b≠N->b≠O->X.heap[b]?=aS.heap[b]?:=λb ak be aU=>by
  rw[<-hX];exact(aR be).trans (J.block b ak aU)
 have m:∀b,b<w.heap.size->b≠N->b≠O->X.heap[b]?=w.heap[b]?:=λb ak be aU=>(ax b ad be aU).trans (aN.block b ak λh=>h);have n:∀b,P b->X.heap[b]?=w.heap[b]?:=λb hm=>m b (g b hm).1 (g b hm).2.1 (g b hm).2.2.1;have i:∀b∈F1++(F2++a4),X.heap[b]?=w.heap[b]?:=λb hm=>m b (h.lo b (List.mem_cons_of_mem _ (List.mem_cons_of_mem _ (List.mem_cons_of_mem _ hm)))).2 (o b hm).1 (o b hm).2.1;have a:∀b,P b->P b\/(B<=b/\b<X.heap.size):=λb hm=>.inl hm;have aI:∀b∈N::O::lb::(F1++(F2++a4)),P b\/(B<=b/\b<X.heap.size):=λb hm=>.inr ⟨(h.lo b hm).1,by have:=(h.lo b hm).2;omega⟩;have cw:aq X w.heap.size 75 #[c0,c1,c2,c3]:=(ax _ ad ad ad).trans v;have cd:(er R).rep X (λb=>P b\/(B<=b/\b<X.heap.size)) [c0,c1,c2,c3]:=D.aL (λb hm=>.inr (⟨(c b hm).1,by have:=(c b hm).2.1;omega⟩:B<=b/\b<X.heap.size)) _ _ (D.aS (λb hm=>m b (c b hm).2.1 (c b hm).2.2.2 (c b hm).2.2.1) _ _ cX);have cf:Sl X (λb=>P b\/(B<=b/\b<X.heap.size)) (some ⟨w.heap.size,0,none⟩) 1 ([R].map er):=⟨rfl,λ_=>⟨w.heap.size,0,[c0,c1,c2,c3],rfl,.inr ⟨ad,ad⟩,by simp only[KJ,Lb];exact D.bj.2 cd,λj u hu=>by
  rw[KV,cw.cell];simpa using hu⟩⟩
 have d:∀b∈bq I (q.hn+1) aJ,b≠N:=λb hm=>by
  rcases r b hm with ac|ac
  .rw[ac];exact Ne.symm d1
  .omega
 have e:=a5.ak (ab:=X) λb hm=>by rw[<-hX];exact aR (d b hm)
 have hl:=h.l.ak (ab:=X) λb hm=>by rw[Lf.1 hm];exact m lb bj.2 (Ne.symm d2) (Ne.symm d3)
 have an:=h.i.ak (ab:=X) λb hm=>i b (by simp[hm]);have cm:hx.length=s.threads.length:=by have:=h.h.row.1;rw[Nat.mul_one] at this;rw[this];exact h.hl
 refine⟨⟨⟨?_,?_,?_⟩,h.g.cap,h.t.cap,e.cap⟩,?_⟩
 .exact(h.g.ak λb hm=>i b (by simp[hm])).sl (ct _) (by rw[KH];exact h.gl.symm) λb hm=>aI b (by simp[hm])
 .exact(h.t.ak λb hm=>i b (by simp[hm])).sl (dw _) (by rw[KH];exact h.tl.symm) λb hm=>aI b (by simp[hm])
 .refine e.sl (l:=(s.threads++[[R]]).map jP) ?_ (by simp[h.hl]) λb hm=>?_
  .rw[KK];refine D.cG (mO _ _ cm λj x bi=>?_) (D.bj.2 (eS.2 ⟨_,1,1,rfl,KD _,cf⟩));by_cases z:j=k
   .subst z;have:=h.th.symm.trans bi;injection this with this;subst this;refine⟨_,h.yN,eS.2 ⟨_,_,_,rfl,h.l.cap,hl.sl ?_ (by simp) λb hm=>aI b (by simp[Lf.1 hm])⟩⟩;rw[KK];exact D.cG (D.bV a _ _ (D.bU n _ _ h.fr)) (D.bj.2 (gb.2 ⟨_,_,_,_,_,_,rfl,h.i.cap,h.GF,an.sl (ct _) (by simp) λb hm=>aI b (by simp[hm]),(h.lk.ak n).mono a⟩))
   .obtain⟨u,hu,a5⟩:=h.qL j x z bi;exact⟨u,hu,D.aL a _ _ (D.aS n _ _ a5)⟩
  .rcases r b hm with ac|ac
   .rw[ac];exact aI O (by simp)
   .exact .inr ⟨ad,ad⟩
 .have:=(h.o.ai aN).on J d1;rw[<-hX];exact this.aM 2 _
end
theorem ff{P:Nat->Prop}{w Y:World}{B:Nat}{s Q:aj}{q:SV}{M:Nat->Prop}(h:q.Is Y (λk=>P k\/(B<=k/\k<Y.heap.size)) s)(J:Fr M Y Z)(hM:∀k,M k->¬P k/\k<B)(aZ:∀k,P k->k<Y.heap.size)(aR:w.heap.size<=B)(aw:Ext w Z)(hs:s=Q):cR P w Q b (.returned (.tuple #[.agg (q.val Q),.bool b])) Z:=by
 subst hs;exact⟨q,rfl,(h.ak λk ap=>J.block k (ap.elim (aZ k) λh=>h.2) λhm=>ap.elim (hM k hm).1 λh=>by have:=(hM k hm).2;omega).mono λk ap=>ap.imp id λap=>⟨ad,by have:=J.size;omega⟩,aw⟩
theorem SV.Is.GD{P:Nat->Prop}{w V:World}{s:aj}{q:SV}(h:q.Is w P s)(aZ:∀b,P b->b<w.heap.size)(aw:Ext w V):q.Is V P s:=h.ak λb O=>aw.block b (aZ b O) λh=>h
theorem wB{P:Nat->Prop}{w:World}{s:aj}{q:SV}(h:q.Is w P s)(aZ:∀b,P b->b<w.heap.size)(aw:Ext w Z):cR P w s b (.returned (.tuple #[.agg (q.val s),.bool b])) Z:=
 ⟨q,rfl,(h.GD aZ aw).mono λ_ O=>.inl O,aw⟩
theorem RO.Ii{P:Nat->Prop}{B:Nat}{w:World}{s:aj}{k:Nat}{fs:List al}{f:al}{N:Nat}{q:SV}{O lb lc:Nat}{hx cN:List Value}{IA:Lp}{ic:Nat}{S:Lp}{aG:Nat}{F1 F2 a4:List Nat}(h:RO P B w s k fs f N q O lb lc hx cN IA ic S aG F1 F2 a4):Sl w (av w) IA f.ints.length (f.ints.map .i):=
 h.i.sl (ct _) (by simp) λb O=>(h.lo b (by simp[O])).2
namespace CL
theorem AF(h:p:=by
 exact zw
 ):p:=h
theorem hv(h:p:=by
 have cc:=aD hu (aC.ok aZ) aC;obtain⟨G,al⟩:=aH aZ ht;clear hu aC aZ ht;dsimp only[UV.val,SV.val];go_enter func10,ntmps10;go_upto_region 1 with(fail);generalize ba:World.alloc _ _=W;have aw:=lF ba;have bD:=jo ba;have b6:=ir ba;have cA:=jq ba;have ag:=cS aw bD b6 cA (cc.1.on aw) (cc.2.1.on aw);have cZ:=aw.size;have dr:=cA.lt;obtain⟨a0,ai,af⟩:=bD.two;obtain⟨a8,am,aF⟩:=b6.two;clear ba aw bD b6 cA;go_wp2_with(fail);refine(uo u s t W ⟨GA,gn,gc,MA,mn,mc,PA,pn,pc⟩ ⟨bR,bV,bC,TA,tn,tc,HA,hn,hc⟩ ag.2.2.2.2.2 al.o).mono ?_;rintro e aS ⟨rfl,aN⟩;have bu:=ae aN;clear a0 ai af a8 am aF;go_upto_region 2 with(fail);generalize hV:World.alloc _ _=V;have bm:Ext W V:=hV▸aN.alloc _;have dk:=bm.size;have z:=ag.2.2.2.1.ai bm;obtain⟨a8,am,aF⟩:=(ag.2.2.1.ai bm).two;obtain⟨bl,aA,aO⟩:=z.two;have bN:=ah bm z;clear hV bm aN z;go_wp2_with(fail);generalize hX:World.setCell _ _ _=Z;obtain⟨bh,a9,bd⟩:=bA (w:=w) [.slice bR bV bC,.slice TA tn tc,.slice HA hn hc,.int .i64 s.fault] (by rfl) bN.2 (ag.1.trans bN.1) ad hX;exact AE
 ):p:=h
end CL
open CL in
theorem wv(u:ay)(s:aj)(t:Int)(P:Nat->Prop)(w:World)(p:UV)(q:SV)(hu:p.Ok w u)(aC:q.Is w P s)(aZ:∀b,P b->b<w.heap.size)(ht:eg s t=none) :
  Calls prog 10 #[.agg (p.val u),.agg (q.val s),.int .i64 t] w (cR P w s false):=by
 exact hr
theorem RO.ai{P:Nat->Prop}{B:Nat}{w ab:World}{s:aj}{k:Nat}{fs:List al}{f:al}{N:Nat}{q:SV}{O lb lc:Nat}{hx cN:List Value}{IA:Lp}{ic:Nat}{S:Lp}{aG:Nat}{F1 F2 a4:List Nat}(h:RO P B w s k fs f N q O lb lc hx cN IA ic S aG F1 F2 a4)(aw:Ext w ab):RO P B ab s k fs f N q O lb lc hx cN IA ic S aG F1 F2 a4:=by
 have ap:∀b,b<w.heap.size->ab.heap[b]?=w.heap[b]?:=λb O=>aw.block b O λh=>h;have ak:∀b∈N::O::lb::(F1++(F2++a4)),ab.heap[b]?=w.heap[b]?:=λb O=>ap b (h.lo b O).2;have aR:=(h.lo N (by simp))
 have n:∀b,P b->ab.heap[b]?=w.heap[b]?:=λb O=>ap b (aC (h.pb b O));refine {th:=h.th,gl:=h.gl,tl:=h.tl,hl:=h.hl,g:=h.g.ak λb O=>ak b (by simp[O]),t:=h.t.ak λb O=>ak b (by simp[O]),h:=h.h.ak λb O=>ak b (by simp[Lf.1 O]),mB:=h.mB,qL:=λj cM bi b6=>?_,yN:=h.yN,l:=h.l.ak λb O=>ak b (by simp[Lf.1 O]),fr:=D.bU n _ _ h.fr,lk:=h.lk.ak n,GF:=h.GF,i:=h.i.ak λb O=>ak b (by simp[O]),o:=h.o.ai aw,nd:=h.nd,lo:=λb O=>⟨(h.lo b O).1,KE (h.lo b O).2 aw.size⟩,pb:=h.pb};obtain⟨u,hu,a5⟩:=h.qL j cM bi b6;exact⟨u,hu,D.aS n _ _ a5⟩
namespace CM
theorem vc(h:p:=by
 rw[bT.o];exact ff (B:=V.heap.size) bB.1 bf.2.drew (λb O=>⟨λhl=>by have:=G.o b hl;omega,ad⟩) (λb O=>by have:=G.o b O;omega) ad bf.1.drew (by rw[dZ bU.2.1,List.set_set];rfl)
 ):p:=h
theorem dB(h:p:=by
 generalize hX:World.setCell _ _ _=Y;have n:=cC.o;rw[hX] at n;have ar:=cJ hX;have i:Ext V Y:=Fr.low (M:=λb=>b=I) (Fr.trans (Fr.mono y.2.1 λ_ h=>h.elim) ar) λb O=>ad;have bB:=aD n.is n.o (bN.trans i);have bs:=i.size;clear hX n ar i a8 am aF d0 aL aM e0 a6 aP c0 c1 c2 c3 H flb J bi bo;exact vb
 ):p:=h
theorem zZ(h:p:=by
 clear bY b0 a8 am aF;exact F8
 ):p:=h
theorem r8(h:p:=by
 clear b4 cw aY;rcases cz.o with h|h
 all_goals
  first
   | have q1:(x.op == 1)=true:=by simpa using h
   | have q1:(x.op == 1)=false:=by simp;omega
  first
   | have cI:(x.op == 2)=true:=by simpa using h
   | have cI:(x.op == 2)=false:=by simp;omega
  first
   | have dd:(x.op == 3)=true:=by simpa using h
   | have dd:(x.op == 3)=false:=by simp;omega
  first
   | have df:(x.op == 4)=true:=by simpa using h
   | have df:(x.op == 4)=false:=by simp;omega
  first
   | have q5:(x.op == 5)=true:=by simpa using h
   | have q5:(x.op == 5)=false:=by simp;omega
  first
   | have di:(x.op == 6)=true:=by simpa using h
   | have di:(x.op == 6)=false:=by simp;omega
  first
   | have q7:(x.op == 7)=true:=by simpa using h
   | have q7:(x.op == 7)=false:=by simp;omega
  first
   | have dI:(x.op == 8)=true:=by simpa using h
   | have dI:(x.op == 8)=false:=by simp;omega
  have T:=ae h;clear h;go_upto_region 12 with(fail);refine eK (λ_=>False) [(0,3),(1,0),(2,3),(3,0),(4,3),(5,3),(6,3),(7,0),(8,2),(9,3),(10,3),(11,3),(12,3),(13,3)] ?_;refine pf ?_;refine ph ?_;refine pf ?_;refine ph ?_
  iterate 3 refine pf ?_
  refine ph ?_;refine ax rfl (λK hK=>?_);go_simp;have aa:Ext X X.drew:=(Fr.refl _ X).drew;have cD:=aQ.2.2.trans aa;have b5:(bk ex).rep X.drew (av X.drew) [.int .i64 eo,.int .i64 en,.string es,.slice EA em ec]:=by
   have:=(dD.on (aQ.2.1.trans aa)).expr;rw[aI.2.1] at this;exact this
  obtain⟨bq,cv⟩:=l.E5 aI.1 (ag.2.2.2.2.2.on cD).at_.g (aQ.1.Ii.on (Fr.ext aa)) b5;refine(nw ex X.drew bR cy bV f.ints.length bC cp s.globals f.ints _ _ _ _ bq cv).mono ?_;rintro e cL ⟨rfl,bu⟩;have cB:Ext X cL:=Fr.aF (Fr.of bu);have cj:=ae (aQ.2.2.trans cB);have dp:=bw.o;generalize ev s.globals f.ints ex=R at *;obtain⟨r,z⟩:=R;have S:=ae dp;have aV:=RO.ai aQ.1 cB;have y:=aD aV (aQ.2.1.trans cB) (aQ.2.2.trans cB);have dt:=cB.size;clear dp aa cD b5 bq cv bu cB a0 ai af a8 am aF d0 aL aM e0 a6 aP c0 c1 c2 c3 H flb J;obtain⟨a8,am,aF⟩:=(ag.2.2.1.ai cj.o).two;obtain⟨d0,aL,aM⟩:=(bJ.ai y.2.1).two;obtain⟨e0,a6,aP⟩:=aV.o.two;obtain⟨ca,bz,flb,J,H,c0,c1,c2,c3,bO⟩:=aV.top;clear aV;refine dO hK ?_;clear hK K
  iterate 5 refine pf ?_
  refine aE ?_;by_cases bt:z=0
  case neg=>
   have cT:(z != 0)=true:=by simpa using bt
   have bT:=ae (S.bad bt);exact zY
  have cT:(z != 0)=false:=by simpa using bt
  have bb:=ae bt;clear bt
 ·
  cases a2:x.dg with
  | true=>
   have bT:=ae (S.gl bb.o T.o a2);rw[a2] at d0;have b9:=aI.2.2.1 T.o a2;have bF:=aI.2.2.2.2;have aR:=y.1.gl;simp only at aR;have cf:x.target<(cr:Int):=ad;obtain⟨bZ,bp,da,bi,⟨cM,bo⟩,cb,b3,ap⟩:=y.1.dg (j:=x.target.toNat) (by show x.target.toNat<cr;omega);simp only at bp;subst bp;have cC:=ae (ap r);clear b9 bF aR ap a2;go_upto_region 45 with(fail);generalize hX:World.setCell _ _ _=Y;have n:=cC.o;rw[hX] at n;have ar:=cJ hX;have i:Ext V Y:=Fr.low (M:=λb=>b=bZ) (Fr.trans (Fr.mono y.2.1 λ_ h=>h.elim) ar) λb O=>ad;have bB:=aD n.is n.o (bN.trans i);have bs:=i.size;clear hX n ar i a8 am aF d0 aL aM e0 a6 aP c0 c1 c2 c3 H flb J bi bo;have aW:=ah (ag.2.2.2.1.ai bB.2.2) (ag.1.trans bB.2.2);have cE:=bB.2.2.size;obtain⟨bl,aA,aO⟩:=aW.1.two;obtain⟨e0,a6,aP⟩:=bB.2.1.two;go_wp2_with(fail);generalize hX:World.setCell _ _ _=Z;obtain⟨bh,a9,bd⟩:=bA (w:=w) [.slice (some ⟨bZ,0,none⟩) cr bc,.slice ab m L,.slice (some ⟨O,0,none⟩) co a3,.int .i64 s.fault] (by rfl) aW.1 aW.2 ad hX;have bf:=ah a9 bd;clear hX a9 bd bl aA aO e0 a6 aP;obtain⟨bl,aA,aO⟩:=bh.two;refine Lk (v:=.tuple #[.agg #[.slice (some ⟨bZ,0,none⟩) cr bc,.slice ab m L,.slice (some ⟨O,0,none⟩) co a3,.int .i64 s.fault],.bool true]) (by simp[results,Tryz.results10,go_sem,bl]) rfl ?_
   exact CV
  | false=>
   have bT:=ae (S.lo bb.o T.o a2);rw[a2] at d0;have ak:=aI.2.2.2.1 T.o a2;have ch:x.target<((next f).ints.length:Int):=ak;obtain⟨I,br,da,bi,⟨cM,bo⟩,cb,b3,hints⟩:=y.1.ints (j:=x.target.toNat) (by show x.target.toNat<f.ints.length;omega);subst br;have cC:=ae (hints r);clear hints a2;go_upto_region 20 with(fail);exact A0
 ·
  by_cases a5:r=0
  .have EB:(r == 0)=true:=by simpa using a5
   have bT:=ae (S.bz bb.o T.o a5);clear a5;go_upto_region 45 with(fail);generalize hX:World.setCell _ _ _=Y;have n:=y.1.pc x.target;rw[hX] at n;have ar:=cJ hX;have i:Ext V Y:=Fr.low (M:=λb=>b=lb) (Fr.trans (Fr.mono y.2.1 λ_ h=>h.elim) ar) λb O=>ad;have bB:=aD n.is n.o (bN.trans i);have bs:=i.size;clear hX n ar i a8 am aF d0 aL aM e0 a6 aP c0 c1 c2 c3 H flb J;exact F3
  .have EB:(r == 0)=false:=by simpa using a5
   have bT:=ae (S.bn bb.o T.o a5);clear a5;have bB:=aD y.1.is y.1.o y.2.2;clear e0 a6 aP c0 c1 c2 c3 H flb J;have aW:=ah (ag.2.2.2.1.ai bB.2.2) (ag.1.trans bB.2.2);have cE:=bB.2.2.size;obtain⟨bl,aA,aO⟩:=aW.1.two;obtain⟨e0,a6,aP⟩:=bB.2.1.two;go_wp2_with(fail);generalize hX:World.setCell _ _ _=Z;obtain⟨bh,a9,bd⟩:=bA (w:=w) [.slice bL cr bc,.slice ab m L,.slice (some ⟨O,0,none⟩) co a3,.int .i64 s.fault] (by rfl) aW.1 aW.2 ad hX;have bf:=ah a9 bd;clear hX a9 bd bl aA aO e0 a6 aP;obtain⟨bl,aA,aO⟩:=bh.two;refine Lk (v:=.tuple #[.agg #[.slice bL cr bc,.slice ab m L,.slice (some ⟨O,0,none⟩) co a3,.int .i64 s.fault],.bool true]) (by simp[results,Tryz.results10,go_sem,bl]) rfl ?_;exact CV
 ):p:=h
theorem sa(h:p:=by
 exact r7
 ):p:=h
theorem Aq(h:p:=by
 have bw:=ae (JE (u:=u) (s:=s) (t:=t) (f:=f) hex cx);have bg:=h.hS.dg;have aI:=cK aJ hex bH a1 bg;clear an hlen aJ hex bH a1 bg;exact r9
 ):p:=h
theorem sc(h:p:=by
 exact Ap
 ):p:=h
end CM
open CM in
theorem qs(u:ay)(s:aj)(t:Int)(f:al)(cq:cH)(x:az)(N:Nat)(P:Nat->Prop)(w:World)(p:UV)(q:SV)(h:jO u s t f cq x N)(hN:N<=100000)(cx:x.op=1\/x.op=6)(hu:p.Ok w u)(aC:q.Is w P s)(aZ:∀b,P b->b<w.heap.size) :
  Calls prog 10 #[.agg (p.val u),.agg (q.val s),.int .i64 t] w (cR P w (b2 u s t f x).1 (b2 u s t f x).2):=by
 exact sb
end Go.Proofs.YtglbpimocmhojaaGreat

/- Part 17 of the proof. No condition of its own. -/
import Derived.Test.YtbkhhfajcgkpgaaGreatQ16
namespace Go.Proofs.YtbkhhfajcgkpgaaGreat
open Go.RowKit Go.Proofs.Tryz
set_option maxRecDepth 1000000
set_option maxHeartbeats 25600000
set_option linter.unusedVariables false
variable{a:Act}{a7 bp:List Nat}{br:List Value}{fs:List an}{O a8 b2 c cE fc hn l lc n:Nat}{o:Oper}{FA bj:Kr}{p:Prop}{J aO:World}
section
variable {P:Program} {e t:TypeId} {z:Value} {size bytes:Nat}
theorem gC(A:Kr)(n c:Nat):(bt A n c).Nodup:=by unfold bt;cases (Value.slice A n c).ownBlock<;>simp
namespace AT
theorem Ah(h:p:=by
 refine h I az ac ⟨bE,rfl⟩ (Kn.grown aJ fun g aJ=>.inl (by rw[h0.eq];simp[aJ])) fun b O=>?_;have aW:(Value.slice I (n+1) az).ownBlock=some b:=by simpa using O
 rcases H with H|H
 ·rw[H] at aW;exact .inl (by rw[h0.eq];simp[aW])
 ·have:=(bE.lt b aW).2;rw[H] at aW;injection aW with aW;right;simp at aW;omega
 ):p:=h
end AT
open AT in
theorem E4{K:Act→World→Prop}{Q:Exit→Act→World→Prop}(bk:bX P t e z size bytes)(s x:Operand)
  (a8:o.op=.call {callee:=.builtin .append,args:=#[s,x],argTypes:=#[t,t]})
  {A:Kr} {n c:Nat} {xs:List Value} {F:List Nat} (h0:Own J e size A n c xs F) {cs:Array Value}
  (hs:a.eval s=.slice A n c) (hx:a.eval x=.slice (some ⟨J.heap.size,0,none⟩) 1 1) (T:cs.size=size) (ae:∀u∈cs.toList,u.oneCell'=true)
  (y:(n+1)*bytes≤140737488355328) (C:n+1≤140737488355328)
  (h:∀I az ac,Own ac e size I (n+1) az (xs++cs.toList) (bt I (n+1) az)→Fr (fun b=>b∈F) J ac→(∀b∈bt I (n+1) az,b∈F∨(J.heap.size≤b∧b<ac.heap.size))→K (a.put o.dst (.slice I (n+1) az)) ac):o.wp P a (J.alloc (.cells cs e)) K Q:=by
 refine jZ _ bk s x a8 0 _ n xs hs (h0.row.alloc _) _ 1 1 cs.toList hx (Src.block (heap_alloc_new J _) 1 ab ae) y C (Kc _) (fun h=>nomatch h) fun G ac bE cx H=>?_;exact Ag
theorem uA{ops:Array Oper}{rest:List Oper}{Q:Exit→Act→World→Prop}(bk:bX P t e z size bytes)(i:o.guard=none)(s x:Operand)
  (a8:o.op=.call {callee:=.builtin .append,args:=#[s,x],argTypes:=#[t,t]})
  {A:Kr} {n c:Nat} {xs:List Value} {F:List Nat} (h0:Own J e size A n c xs F) {cs:Array Value}
  (hs:a.eval s=.slice A n c) (hx:a.eval x=.slice (some ⟨J.heap.size,0,none⟩) 1 1) (T:cs.size=size) (ae:∀u∈cs.toList,u.oneCell'=true)
  (y:(n+1)*bytes≤140737488355328) (C:n+1≤140737488355328)
  (h:∀I az ac,Own ac e size I (n+1) az (xs++cs.toList) (bt I (n+1) az)→Fr (fun b=>b∈F) J ac→(∀b∈bt I (n+1) az,b∈F∨(J.heap.size≤b∧b<ac.heap.size))→wpList P ops Q rest (a.put o.dst (.slice I (n+1) az)) ac):wpList P ops Q (o::rest) a (J.alloc (.cells cs e)):=
 wpList_plain i fun _ hK=>E4 bk s x a8 h0 hs hx T ae y C fun I az ac b7 g2 ca=>hK _ _ (h I az ac b7 g2 ca)
end
theorem xh{f I:List Nat}{a b:Nat}(h:(bp++a7).Nodup)(aw:∀x∈bp++a7,x<a)(hI:I.Nodup)(d:∀x∈I,a≤x∧x<b)(hK:f.Nodup)(g:∀x∈f,x∈bp∨b≤x)(ai:a≤b):(f++(a7++I)).Nodup:=by
 have h0:=List.nodup_append.1 h;refine List.nodup_append.2 ⟨hK,List.nodup_append.2 ⟨h0.2.1,hI,fun x hx y a4 c=>?_⟩,fun x hx y a4 c=>?_⟩
 ·have:=aw x (by simp[hx]);have:=d y a4;omega
 ·subst c;rcases JZ.1 a4 with a4|a4
  ·rcases g x hx with ae|ae
   ·exact h0.2.2 x ae x a4 rfl
   ·have:=aw x (by simp[a4]);omega
  ·have aC:=d x a4;rcases g x hx with ae|ae
   ·have:=aw x (by simp[ae]);omega
   ·omega
theorem GD{X Y:List Nat}{m:Nat}(hX:X.Nodup)(b6:Y.Nodup)(ae:∀x∈X,x<m)(aC:∀y∈Y,m≤y):(X++Y).Nodup:=
 List.nodup_append.2 ⟨hX,b6,fun x hx y a4 c=>by have:=ae x hx;have:=aC y a4;omega⟩
theorem vD{F1 F2 L S:List Nat}:(F1++(F2++(L++S))).Nodup↔(L++(F1++(F2++S))).Nodup:=by
 have h:(F1++(F2++(L++S))).Perm (L++(F1++(F2++S))):=by
  rw[←List.append_assoc F1 F2,←List.append_assoc (F1++F2) L,←List.append_assoc F1 F2 S,←List.append_assoc L];exact List.perm_append_comm.append_right S
 exact h.nodup_iff
structure Small(s:ah):Prop where
 g:s.globals.length≤1000
 t:s.table.length≤5000
 h:s.threads.length≤1000
 f:∀t∈s.threads,t.length≤1000000∧∀f∈t,f.ints.length≤100000∧f.aw.length≤100000
structure GZ(B:Nat)(w:World)(s:ah)(GA:Kr)(gn gc:Nat)(TA:Kr)(tn tc r k:Nat)(HA:Kr)(hc:Nat)(xs:List Value)(L S:List Nat):Prop where
 st:qy w {s with threads:=s.threads.take k} GA gn gc TA tn tc HA k hc xs (bt GA gn gc) (bt TA tn tc) L S
 o:af w r 30 #[.slice GA gn gc,.slice TA tn tc,.slice HA k hc,.int .i64 s.fault]
 ne:r∉bt GA gn gc++(bt TA tn tc++(L++S))
 lo:∀b∈bt GA gn gc++(bt TA tn tc++(L++S)),B≤b∧b<w.heap.size
 go:B≤r
section
variable {B:Nat} {w ac:World} {s:ah} {GA TA HA:Kr} {gn gc tn tc r k hc:Nat} {xs:List Value} {L S:List Nat}
theorem GZ.ak(h:GZ B w s GA gn gc TA tn tc r k HA hc xs L S)(he:Ext w ac):GZ B ac s GA gn gc TA tn tc r k HA hc xs L S:=
 ⟨h.st.aj fun b O=>he.block b (h.lo b O).2 fun h=>h,h.o.ak he,h.ne,fun b O=>⟨(h.lo b O).1,JR (h.lo b O).2 he.size⟩,h.go⟩
theorem GZ.step(h:GZ B w s GA gn gc TA tn tc r k HA hc xs L S)(bm:s.threads[k]?=some fs){aN:World}(he:Ext w aN)
  (a8:Own aN 100 4 FA n c br bp) (aD:j1 oJ aN fs br a7) (hn:n=fs.length) (nd:(bp++a7).Nodup) (hK:∀b∈bp++a7,w.heap.size≤b∧b<aN.heap.size)
  {d:Kr} {G:Nat} (aU:Own aO 52 1 d (k+1) G (xs++[.slice FA n c]) (bt d (k+1) G)) (H:Fr (fun b=>b∈L) aN aO) (T:∀b∈bt d (k+1) G,b∈L∨(aN.heap.size≤b∧b<aO.heap.size)) {X:World}
  (hX:aO.setCell ⟨r,2,none⟩ (.slice d (k+1) G)=X):GZ B X s GA gn gc TA tn tc r (k+1) d G (xs++[.slice FA n c]) (bt d (k+1) G) (S++(bp++a7)):=by
 have hw:=he.size;have bL:=H.size;have cV:r<w.heap.size:=h.o.lt;have o:=h.st.nd;have m:=vD.1 o;have n2:=List.nodup_append.1 m;have l:∀b∈bt GA gn gc++(bt TA tn tc++S),b∉L:=fun b O aT=>n2.2.2 b aT b O rfl;have aw:∀b∈bt GA gn gc++(bt TA tn tc++S),b<w.heap.size∧b≠r:=fun b O=>by
  have aW:b∈bt GA gn gc++(bt TA tn tc++(L++S)):=by
   exact FI
  exact⟨(h.lo b aW).2,fun he=>h.ne (he▸aW)⟩
 have bq:∀b∈L,b<w.heap.size∧b≠r:=fun b O=>by
  have aW:b∈bt GA gn gc++(bt TA tn tc++(L++S)):=by simp[O]
  exact⟨(h.lo b aW).2,fun he=>h.ne (he▸aW)⟩
 have j:∀b,b≠r→X.heap[b]?=aO.heap[b]?:=fun b O=>by rw[←hX];exact aL O
 have co:X.heap.size=aO.heap.size:=by rw[←hX];simp[World.setCell]
 have f:∀b∈bt GA gn gc++(bt TA tn tc++S),X.heap[b]?=w.heap[b]?:=fun b O=>
  (j b (aw b O).2).trans ((H.block b (by have:=(aw b O).1;omega) (l b O)).trans (he.block b (aw b O).1 fun h=>h))
 have g:∀b∈bp++a7,X.heap[b]?=aN.heap[b]?:=fun b O=>
  (j b (aH (hK b O))).trans (H.block b (hK b O).2 fun aT=>by have:=hK b O;have:=(bq b aT).1;omega)
 have i:∀b∈bt d (k+1) G,b≠r:=fun b O=>by
  rcases T b O with ae|ae
  ·exact(bq b ae).2
  ·omega
 have aR:nW X fs [.slice FA n c] (bp++a7):=⟨FA,n,c,br,bp,a7,rfl,rfl,hn,a8.aj fun b O=>g b (by simp[O]),aD.aj oJ.aj fun b O=>g b (by simp[O])⟩
 have eN:s.threads.take (k+1)=s.threads.take k++[fs]:=a9 bm;refine⟨⟨h.st.gl,h.st.tl,?_,h.st.g.aj fun b O=>f b (by simp only[JZ];exact .inl O),h.st.t.aj fun b O=>f b (by simp only[JZ];exact .inr (.inl O)),aU.aj fun b O=>j b (i b O),?_,?_⟩,?_,?_,fun b O=>?_,h.go⟩
 ·have:=h.st.hl;show k+1=(s.threads.take (k+1)).length
  rw[eN,JS,←this];rfl
 ·show j1 nW X (s.threads.take (k+1)) _ _
  rw[eN];exact(h.st.hs.aj nW.aj fun b O=>f b (by simp[O])).snoc aR
 ·refine vD.2 ?_;rw[show bt GA gn gc++(bt TA tn tc++(S++(bp++a7)))=(bt GA gn gc++(bt TA tn tc++S))++(bp++a7) by simp];refine xh (a:=w.heap.size) (b:=aN.heap.size) m (fun x hx=>?_) nd hK (gC _ _ _) (fun x hx=>(T x hx).imp id fun h=>h.1) hw;rcases JZ.1 hx with hx|hx
  ·exact(bq x hx).1
  ·exact(aw x hx).1
 ·have:=(h.o.ak he).on H fun aT=>(bq _ aT).2 rfl;rw[←hX];exact this.aC 2 _
 ·intro aJ;simp only[JZ] at aJ;have ae:=h.ne;simp only[JZ] at ae;rcases aJ with aJ|aJ|aJ|aJ|aJ|aJ
  ·exact ae (.inl aJ)
  ·exact ae (.inr (.inl aJ))
  ·exact i _ aJ rfl
  ·exact ae (.inr (.inr (.inr aJ)))
  ·have:=hK r (by simp[aJ]);omega
  ·have:=hK r (by simp[aJ]);omega
 ·rw[co];simp only[JZ] at O;have hl:=h.lo;rcases O with O|O|O|O|O|O
  ·have:=hl b (by simp[O]);omega
  ·have:=hl b (by simp[O]);omega
  ·rcases T b O with ae|ae
   ·have:=hl b (by simp[ae]);omega
   ·have:=h.go;omega
  ·have:=hl b (by simp[O]);omega
  ·have:=hK b (by simp[O]);have:=h.go;omega
  ·have:=hK b (by simp[O]);have:=h.go;omega
end
theorem FK:bX prog 50 100 (.agg #[.int .i64 0,.int .i64 0,.slice none 0 0,.slice none 0 0]) 4 64:=bX.mk' Tryz.underlying50 (by kernel_rfl) rfl ab
theorem Ci:bX prog 28 52 (.agg #[.slice none 0 0]) 1 24:=bX.mk' Tryz.underlying28 (by kernel_rfl) rfl ab
theorem Own.ak{w ac:World}{e:TypeId}{z:Nat}{A:Kr}{xs:List Value}{F:List Nat}(h:Own w e z A n c xs F)(he:Ext w ac):Own ac e z A n c xs F:=h.aj fun b O=>he.block b (h.lt b O) fun h=>h
structure G0(aO wr:World)(fs:List an)(j:Nat)(FA:Kr)(fc:Nat)(br:List Value)(bp a7:List Nat):Prop where
 ext:Ext aO wr
 o:Own wr 100 4 FA j fc br bp
 f:j1 oJ wr (fs.take j) br a7
 nd:(bp++a7).Nodup
 lo:∀b∈bp++a7,aO.heap.size≤b∧b<wr.heap.size
theorem G0.ak{aO wr ac:World}{fs:List an}{j:Nat}{FA:Kr}{fc:Nat}{br:List Value}{bp a7:List Nat}(h:G0 aO wr fs j FA fc br bp a7)(he:Ext wr ac):G0 aO ac fs j FA fc br bp a7:=
 ⟨h.ext.trans he,h.o.ak he,h.f.aj oJ.aj fun b O=>he.block b (h.lo b (by simp[O])).2 fun h=>h,h.nd,fun b O=>⟨(h.lo b O).1,JR (h.lo b O).2 he.size⟩⟩
theorem G0.step{wr:World}{j:Nat}(h:G0 aO wr fs j FA fc br bp a7){f:an}(bm:fs[j]?=some f){a b c:World}{IA:Kr}{i ic:Nat}
  (ar:Ext wr a) (hI:Own a 3 1 IA i ic (f.ints.map eC) (bt IA i ic)) (d:∀x∈bt IA i ic,wr.heap.size≤x∧x<a.heap.size) (al:i=f.ints.length)
  (bI:Ext a b) (bR:Own b 3 1 bj l lc (f.aw.map eC) (bt bj l lc)) (bx:∀x∈bt bj l lc,a.heap.size≤x∧x<b.heap.size) (hl:l=f.aw.length)
  {cR:Kr} {cM:Nat} (a8:Own c 100 4 cR (j+1) cM (br++[.int .i64 f.proc,.int .i64 f.pc,.slice IA i ic,.slice bj l lc]) (bt cR (j+1) cM)) (aD:Fr (fun x=>x∈bp) b c) (T:∀x∈bt cR (j+1) cM,x∈bp∨(b.heap.size≤x∧x<c.heap.size)) :
  G0 aO c fs (j+1) cR cM (br++[.int .i64 f.proc,.int .i64 f.pc,.slice IA i ic,.slice bj l lc]) (bt cR (j+1) cM) (a7++(bt IA i ic++bt bj l lc)):=by
 have G:=h.ext.size;have s1:=ar.size;have s2:=bI.size;have aj:=aD.size;have O:=(h.ak ar).ak bI;have N:∀x∈bp,x<wr.heap.size:=fun x hx=>(h.lo x (by simp[hx])).2;have a1:∀x∈a7,x∉bp:=fun x hx ae=>(List.nodup_append.1 h.nd).2.2 x ae x hx rfl;have H:oJ c f [.int .i64 f.proc,.int .i64 f.pc,.slice IA i ic,.slice bj l lc] (bt IA i ic++bt bj l lc):=
  ⟨IA,i,ic,bj,l,lc,_,_,rfl,rfl,al,hl,(hI.ak bI).aj fun x hx=>aD.block x (aH (d x hx)) fun ae=>by have:=d x hx;have:=N x ae;omega,bR.aj fun x hx=>aD.block x (bx x hx).2 fun ae=>by have:=bx x hx;have:=N x ae;omega⟩
 refine⟨Fr.low (M:=fun x=>x∈bp) (Fr.trans (Fr.mono O.ext fun _ h=>h.elim) aD) fun x hx=>(h.lo x (by simp[hx])).1,a8,?_,?_,fun x hx=>?_⟩
 ·rw[a9 bm];exact(O.f.aj oJ.aj fun x hx=>aD.block x (by have:=(h.lo x (by simp[hx])).2;omega) (a1 x hx)).snoc H
 ·refine xh (a:=wr.heap.size) (b:=b.heap.size) h.nd (fun x hx=>(h.lo x hx).2) (GD (m:=a.heap.size) (gC _ _ _) (gC _ _ _) (fun x hx=>(d x hx).2) fun x hx=>(bx x hx).1) (fun x hx=>?_) (gC _ _ _) (fun x hx=>(T x hx).imp id fun h=>h.1) ab;rcases JZ.1 hx with hx|hx
  ·have:=d x hx;omega
  ·have:=bx x hx;omega
 ·simp only[JZ] at hx;rcases hx with hx|hx|hx|hx
  ·rcases T x hx with ae|ae
   ·have:=h.lo x (by simp[ae]);omega
   ·omega
  ·have:=h.lo x (by simp[hx]);omega
  ·have:=d x hx;omega
  ·have:=bx x hx;omega
section
variable {P:Program} {ops:Array Oper} {Q:Exit→Act→World→Prop} {R:World→World→Prop} {tails:List Nat}
end
def yF(w:World)(op num:Int)(gy:ByteArray)(l:List VE)(e:Ending)(ac:World):Prop:=∃A n c,e=.returned (.agg #[.int .i64 op,.int .i64 num,.string gy,.slice A n c])∧n≤c∧Sl ac (fresh w ac) A n (l.map bb)∧Ext w ac
def wB(x:VE):Prop:=∀(w:World) (A:Kr) (n c:Nat),Sl w (au w) A n (x.args.map bb)→Calls prog 61 #[.agg #[.int .i64 x.aU,.int .i64 x.numOf,.string x.a1,.slice A n c]] w (yF w x.aU x.numOf x.a1 x.args)
namespace AU
theorem jD(h:p:=by
 generalize hX:World.setCell aO _ _=Y;have bk:Fr (fun b=>b=w.heap.size) aO Y:=hX▸(Fr.refl (fun b=>b=w.heap.size) aO).setCell (.inl rfl) _;have aa:=ad (show Ext w Y∧af Y w.heap.size 57 #[.int .i64 op,.int .i64 num,.string gy,.slice cf (k+1) c3]∧af Y (w.heap.size+1) 57 #[.int .i64 0,.int .i64 0,.string ⟨#[]⟩,.slice none 0 0]∧Gr (fun b=>w.heap.size+2≤b) (w.heap.size+2) 57 4 Y cf (k+1) c3 ((l.take (k+1)).map bb) from
  ⟨Fr.low (M:=fun b=>b=w.heap.size) (Fr.trans (Fr.mono aE.1 fun _ h=>h.elim) bk) fun b O=>ab,by rw[←hX];exact aE.2.1.aC 3 _,aE.2.2.1.on bk ab,by
   rw[a9 bM.1,JX];exact aE.2.2.2.cO bk fun b O _=>⟨ab,ab⟩⟩)
 clear hX bk a0 ap ak bP;go_wp2;go_roundw
 case rel=>exact⟨k+1,cf,c3,by go_num,ab,aa.o⟩
 case measure=>exact aB
 ):p:=h
theorem uY(h:p:=by
 have bM:=ai a4 cv;have bL:=ad (b9.o y (JT a4));clear a4 bJ cv Z a3 O aF aL b8 hG;go_upto_region 6 with(fail);generalize hU:World.alloc _ _=U;have ck:Ext wr U:=hU▸Kn.alloc _;have ct:af U wr.heap.size 57 #[.int .i64 y.aU,.int .i64 y.numOf,.string y.a1,.slice cC cQ cD]:=hU▸Ko;have c4:=ck.size;have bH:=aP.2.1.ak ck;have cm:=dA (aP.1.trans ck) bH (aP.2.2.1.ak ck) (aP.2.2.2.ak ck) (bM.2.on (Fr.ext ck));obtain⟨d0,ag,aR⟩:=ct.two;obtain⟨a0,ap,ak⟩:=bH.two;clear hU ck ct bH c0 c1 c2 c3 aW;refine eE (fun _=>False) [(0,3),(1,0),(2,0),(3,1),(4,1),(5,2),(6,3),(7,2)] ?_;refine pf ?_
 iterate 2 refine ph ?_
 refine aK rfl (fun K hK=>?_);go_simp;refine(bL.o _ _ _ _ (cm.2.2.2.2.on (Fr.ext (Fr.refl _ U).drew))).mono ?_;rintro e aN ⟨cB,cp,zc,rfl,bF,bu,ar⟩;have H1:=aQ bu bF ar;refine dW hK (ar) ?_;clear hK K;have aG:Ext U aN:=Fr.aO ar;have cq:=cm.2.2.2.1.ak aG;have b1:=aG.size;have S:∀b,(Value.slice I k az).ownBlock=some b→b<U.heap.size:=fun b O=>(cm.2.2.2.1.lt O).2;have hd:(bb y).rep aN (lg (fun b=>w.heap.size+2≤b) aN (.slice I k az)) (#[.int .i64 y.aU,.int .i64 y.numOf,.string y.a1,.slice cB cp zc]:Array Value).toList:=
  aV.2 ⟨cB,cp,zc,rfl,bF,bu.mono fun b O=>⟨by have:=O.1;have:U.drew.heap.size=U.heap.size:=rfl;omega,O.2,fun h=>by have:=S b h;have:=O.1;have:U.drew.heap.size=U.heap.size:=rfl;omega⟩⟩
 have bW:=ai cq hd;clear bu bF ar cq hd S;refine ru ?_;refine aq rfl (fun K hK=>?_);rw[if_pos (by rfl)];refine qn oU (.tmp 16) (.tmp 19) rfl bW.1 bW.2 rfl rfl rfl ab ab ab ?_;intro cf c3 aO b7 g2 ca cJ;have N:∀b,(Value.slice I k az).ownBlock=some b→w.heap.size+2≤b:=fun b O=>(bW.1.lt O).1;have bP:=(cm.2.1.ak aG).on g2 (fun h=>by have:=N _ h;omega);have r:=(cm.2.2.1.ak aG).on g2 (fun h=>by have:=N _ h;omega);have bB:Ext w aO:=Fr.low (M:=fun b=>(Value.slice I k az).ownBlock=some b) (Fr.trans (Fr.mono (cm.1.trans aG) fun _ h=>h.elim) g2) fun b O=>by have:=N b O;omega
 have aE:=bw bB bP r b7;clear b7 g2 ca cJ N r bB a0 ap ak d0 ag aR;obtain⟨a0,ap,ak⟩:=bP.two;exact lB
 ):p:=h
end AU
open AU in
theorem fw(op num:Int)(gy:ByteArray)(l:List VE)(ao:∀y∈l,wB y)(hl:l.length≤2)(w:World)(A:Kr)(n c:Nat)(h:Sl w (au w) A n (l.map bb)) :
  Calls prog 61 #[.agg #[.int .i64 op,.int .i64 num,.string gy,.slice A n c]] w (yF w op num gy l):=by
 have hn:n≤2:=by have:=h.1;simp at this;omega
 have f:=ad (show l.length=n by have:=h.1;simpa using this);obtain⟨H,b9⟩:=aM h ao;clear h ao hl;go_enter func61,ntmps61;go_upto_region 1 with(fail);generalize bg:World.alloc _ _=W;have R:Ext w W:=bg▸(Kn.alloc _).alloc _;have cd:af W w.heap.size 57 #[.int .i64 op,.int .i64 num,.string gy,.slice A n c]:=bg▸(Ko).alloc _;have g:af W (w.heap.size+1) 57 #[.int .i64 0,.int .i64 0,.string ⟨#[]⟩,.slice none 0 0]:=bg▸af.ct _ _ _ (by simp);obtain⟨a0,ap,ak⟩:=cd.two;clear bg;go_upto_region 3 with(fail);generalize hX:World.setCell _ _ _=X;have aD:Fr (fun b=>b=w.heap.size) W X:=hX▸(Fr.refl (fun b=>b=w.heap.size) W).setCell (.inl rfl) _;have aF:Ext w X:=Fr.low (M:=fun b=>b=w.heap.size) (Fr.trans (Fr.mono R fun _ h=>h.elim) aD) fun b O=>ab;have aL:af X w.heap.size 57 #[.int .i64 op,.int .i64 num,.string gy,.slice none 0 0]:=hX▸cd.aC 3 _;have b8:af X (w.heap.size+1) 57 #[.int .i64 0,.int .i64 0,.string ⟨#[]⟩,.slice none 0 0]:=g.on aD ab;clear aD R cd g a0 ap ak;have aP:=aQ aF aL b8;clear hX aF aL b8;go_wp2_with(fail);go_loopw [11] (fun cg wr=>∃(k:Nat) (I:Kr) (az:Nat),cg=.int .i64 k∧k≤n∧Ext w wr∧af wr w.heap.size 57 #[.int .i64 op,.int .i64 num,.string gy,.slice I k az]∧af wr (w.heap.size+1) 57 #[.int .i64 0,.int .i64 0,.string ⟨#[]⟩,.slice none 0 0]∧Gr (fun b=>w.heap.size+2≤b) (w.heap.size+2) 57 4 wr I k az ((l.take k).map bb)) (fun cg _=>n - (intOf cg).toNat)
 case atStart=>exact⟨0,none,0,rfl,ab,aP.1,aP.2.1,aP.2.2,Gr.nil _ _ _ _ _⟩
 case round=>
  obtain⟨k,I,az,rfl,aj,aF,aL,b8,hG⟩:=hrel;clear aP;have aP:=bw aF aL b8 hG;have b6:=b8.lt;by_cases aw:k<n
  ·obtain⟨b,o,y,cs,rfl,O,a4,bJ,a3,Z⟩:=(H.on (Fr.ext aF)).gN cZ aw;exact uX
  ·obtain rfl:k=n:=ab;obtain⟨a0,ap,ak⟩:=aL.two;obtain⟨bv,bd,be⟩:=b8.two;clear aF aL b8 hG;go_wp2_with(fail);generalize hX:World.setCell _ _ _=Y;obtain⟨bt,bA,bk⟩:=cb (w:=w) [.int .i64 op,.int .i64 num,.string gy,.slice I k az] (by rfl) aP.2.2.1 aP.1 ab hX;have bM:=ai bA bk;clear hX bA bk a0 ap ak bv bd be;obtain⟨bv,bd,be⟩:=bt.two;refine Km (v:=.agg #[.int .i64 op,.int .i64 num,.string gy,.slice I k az]) (by simp[results,Tryz.results61,go_sem,bv]) rfl ?_;have aJ:=aP.2.2.2.cO bM.2 fun b O _=>⟨ab,ab⟩
   rw[JY (aH f.o)] at aJ;exact⟨I,k,az,rfl,aJ.cap.1,aJ.sl (fun b aw O=>⟨ab,aw⟩) (fun b aw O=>⟨ab,aw⟩),bM.1⟩
theorem jq:∀x:VE,wB x
 | .num n=>fun w A m c h=>fw 1 n ⟨#[]⟩ [] (by simp) (by simp) w A m c h
 | .gy s=>fun w A m c h=>fw 2 0 s [] (by simp) (by simp) w A m c h
 | .loc k=>fun w A m c h=>fw 18 k ⟨#[]⟩ [] (by simp) (by simp) w A m c h
 | .ia k=>fun w A m c h=>fw 19 k ⟨#[]⟩ [] (by simp) (by simp) w A m c h
 | .un op x=>fun w A m c h=>fw op 0 ⟨#[]⟩ [x] (fun y a4=>by rw[Kh.1 a4];exact jq x) (by simp) w A m c h
 | .bin op x y=>fun w A m c h=>fw op 0 ⟨#[]⟩ [x,y] (fun z bi=>by
   simp only[J6,List.not_mem_nil,or_false] at bi;rcases bi with bi|bi
   ·rw[bi];exact jq x
   ·rw[bi];exact jq y) (by simp) w A m c h
theorem x5(o:Option VE)(w:World)(eo en:Int)(es:ByteArray)(A:Kr)(n c:Nat)(h:(nZ o).rep w (au w) [.int .i64 eo,.int .i64 en,.string es,.slice A n c]) :
  Calls prog 61 #[.agg #[.int .i64 eo,.int .i64 en,.string es,.slice A n c]] w fun e ac=>∃I aZ az,e=.returned (.agg #[.int .i64 eo,.int .i64 en,.string es,.slice I aZ az])∧(nZ o).rep ac (fresh w ac) [.int .i64 eo,.int .i64 en,.string es,.slice I aZ az]∧Ext w ac:=by
 cases o with
 | none=>
  obtain⟨A2,c2,e⟩:=eT.1 h;simp only[List.cons.injEq,and_true] at e;obtain⟨e1,e2,e3,bs⟩:=e;injection e1 with _ e1;injection e2 with _ e2;injection e3 with e3;injection bs with bs cG bG;subst e1 e2 e3 bs cG bG;refine(fw 0 0 ⟨#[]⟩ [] (by simp) (by simp) w _ 0 c (Sl.bG _)).mono ?_;rintro e ac ⟨I,aZ,az,rfl,ae,aC,aT⟩;obtain rfl:aZ=0:=aC.1.symm
  exact⟨I,0,az,rfl,eT.2 ⟨I,az,rfl⟩,aT⟩
 | some x=>
  obtain⟨A2,n2,c2,e,hc,hs⟩:=aV.1 h;simp only[List.cons.injEq,and_true] at e;obtain⟨e1,e2,e3,bs⟩:=e;injection e1 with _ e1;injection e2 with _ e2;injection e3 with e3;injection bs with bs cG bG;subst e1 e2 e3 bs cG bG;refine(jq x w _ _ _ hs).mono ?_;rintro e ac ⟨I,aZ,az,rfl,ae,aC,aT⟩;exact⟨I,aZ,az,rfl,aV.2 ⟨I,aZ,az,rfl,ae,aC⟩,aT⟩
def F5(w:World)(l:List VE)(e:Ending)(ac:World):Prop:=∃A n c,e=.returned (.slice A n c)∧n≤c∧Sl ac (fresh w ac) A n (l.map bb)∧Ext w ac
namespace AV
theorem uY(h:p:=by
 have bM:=ai a4 cv;clear a4 bJ cv Z a3 O aF hG;go_upto_region 5 with(fail);generalize hU:World.alloc _ _=U;have ck:Ext wr U:=hU▸Kn.alloc _;have ct:af U wr.heap.size 57 #[.int .i64 y.aU,.int .i64 y.numOf,.string y.a1,.slice cC cQ cD]:=hU▸Ko;have c4:=ck.size;have cm:=aQ (aP.1.trans ck) (aP.2.ak ck) (bM.2.on (Fr.ext ck));obtain⟨d0,ag,aR⟩:=ct.two;clear hU ck ct c0 c1 c2 c3 aW;go_wp2_with(fail);refine(jq y _ _ _ _ cm.2.2).mono ?_;rintro e aN ⟨cB,cp,zc,rfl,bF,bu,aG⟩;have cq:=cm.2.1.ak aG;have b1:=aG.size;have S:∀b,(Value.slice I k az).ownBlock=some b→b<U.heap.size:=fun b O=>(cm.2.1.lt O).2;have hd:(bb y).rep aN (lg (fun b=>w.heap.size≤b) aN (.slice I k az)) (#[.int .i64 y.aU,.int .i64 y.numOf,.string y.a1,.slice cB cp zc]:Array Value).toList:=
  aV.2 ⟨cB,cp,zc,rfl,bF,bu.mono fun b O=>⟨by have:=O.1;omega,O.2,fun h=>by have:=S b h;have:=O.1;omega⟩⟩
 have H1:=aQ (cm.1.trans aG) cq hd;clear bu bF aG cq hd S d0 ag aR;go_wp2_with(at_builtin;refine bR oU rfl (.tmp 12) (.tmp 15) rfl H1.2.1 H1.2.2 rfl rfl rfl ab ab ab ?_;intro cf c3 aO b7 g2 ca cJ;have bW:=ai b7 g2;clear b7 g2 ca cJ);have N:∀b,(Value.slice I k az).ownBlock=some b→w.heap.size≤b:=fun b O=>(H1.2.1.lt O).1;have aS:Ext w aO:=Fr.low (M:=fun b=>(Value.slice I k az).ownBlock=some b) (Fr.trans (Fr.mono H1.1 fun _ h=>h.elim) bW.2) fun b O=>N b O;have J:=ad aS;clear N aS;go_roundw
 case rel=>exact⟨k+1,cf,c3,rfl,by go_num,ab,J.o,by rw[a9 bM.1,JX];exact bW.1⟩
 case measure=>exact aB
 ):p:=h
end AV
open AV in
theorem pF(l:List VE)(hl:l.length≤100000)(w:World)(A:Kr)(n c:Nat)(h:Sl w (au w) A n (l.map bb)) :
  Calls prog 63 #[.slice A n c] w (F5 w l):=by
 have bB:l.length=n:=by have:=h.1;simpa using this
 have hn:n≤100000:=ab;obtain⟨f,H⟩:=aM bB h;clear h hl bB;go_enter func63,ntmps63;go_wp2_with(fail);go_loopw [3,8] (fun sv cg wr=>∃(k:Nat) (I:Kr) (az:Nat),sv=.slice I k az∧cg=.int .i64 k∧k≤n∧Ext w wr∧Gr (fun b=>w.heap.size≤b) w.heap.size 57 4 wr I k az ((l.take k).map bb)) (fun _ cg _=>n - (intOf cg).toNat)
 case atStart=>exact⟨0,none,0,rfl,rfl,ab,Kn,Gr.nil _ _ _ _ _⟩
 case round=>
  obtain⟨k,I,az,rfl,rfl,aj,aF,hG⟩:=hrel;have aP:=ai aF hG;have nH:=aF.size;by_cases aw:k<n
  ·obtain⟨b,o,y,cs,rfl,O,a4,bJ,a3,Z⟩:=(H.on (Fr.ext aF)).gN cZ aw;exact uX
  ·obtain rfl:k=n:=ab;clear aF hG;go_wp2_with(fail);go_ret;have aJ:=aP.2;rw[JY (aH f.o)] at aJ;exact⟨I,k,az,rfl,aJ.cap.1,aJ.sl (fun b aw O=>⟨O,aw⟩) (fun b aw O=>⟨O,aw⟩),aP.1⟩
theorem pH(p:bC)(w:World)(A:Kr)(n c:Nat)(h:(de p).rep w (au w) [.bool p.param,.int .i64 p.index,.slice A n c]) :
  Calls prog 62 #[.agg #[.bool p.param,.int .i64 p.index,.slice A n c]] w fun e ac=>∃I aZ az,e=.returned (.agg #[.bool p.param,.int .i64 p.index,.slice I aZ az])∧(de p).rep ac (fresh w ac) [.bool p.param,.int .i64 p.index,.slice I aZ az]∧Ext w ac:=by
 obtain⟨A2,n2,c2,e,hc,hs⟩:=ej.1 h;simp only[List.cons.injEq,and_true,true_and] at e;injection e with bs cG bG;subst bs cG bG;have H:=ad hs;have g7:p.at_.toList.length≤100000:=by cases p.at_<;>simp
 clear h hs hc;generalize i:p.param=pb;generalize j:p.index=pi;have b4:=ai i j;clear i j;go_enter func62,ntmps62;go_upto_region 1 with(fail);generalize bg:World.alloc _ _=W;have R:Ext w W:=bg▸(Kn.alloc _).alloc _;have cd:af W w.heap.size 59 #[.bool pb,.int .i64 pi,.slice A n c]:=bg▸(Ko).alloc _;have g:af W (w.heap.size+1) 59 #[.bool false,.int .i64 0,.slice none 0 0]:=bg▸af.ct _ _ _ (by simp);have ax:=bw R cd g (H.on (Fr.ext R));have cA:=g.lt;obtain⟨a0,ap,ak⟩:=cd.two;clear bg R cd g;go_wp2_with(fail);refine(pF _ g7 W _ _ _ ax.2.2.2).mono ?_;rintro e aN ⟨cB,cp,zc,rfl,bF,bu,aG⟩;have b1:=aG.size;have b3:=ax.2.1.ak aG;have f:=ax.2.2.1.ak aG;have H1:=dA (ax.1.trans aG) bF bu b3 f;clear a0 ap ak;obtain⟨a0,ap,ak⟩:=b3.two;clear b3 f aG bF bu;go_upto_region 2 with(fail);generalize hX:World.setCell _ _ _=X;have aD:Fr (fun b=>b=w.heap.size) aN X:=hX▸(Fr.refl (fun b=>b=w.heap.size) aN).setCell (.inl rfl) _;have aF:Ext w X:=Fr.low (M:=fun b=>b=w.heap.size) (Fr.trans (Fr.mono H1.1 fun _ h=>h.elim) aD) fun b O=>ab;have aL:af X w.heap.size 59 #[.bool pb,.int .i64 pi,.slice cB cp zc]:=hX▸H1.2.2.2.1.aC 2 _;have b8:af X (w.heap.size+1) 59 #[.bool false,.int .i64 0,.slice none 0 0]:=H1.2.2.2.2.on aD ab;have aP:=aQ aF aD b8;clear hX a0 ap ak;obtain⟨a0,ap,ak⟩:=aL.two;obtain⟨bv,bd,be⟩:=b8.two;clear aD aF aL b8;go_wp2_with(fail);generalize hX:World.setCell _ _ _=Y;obtain⟨bt,bA,bk⟩:=cb (w:=w) [.bool pb,.int .i64 pi,.slice cB cp zc] (by rfl) aP.2.2 aP.1 ab hX;have bM:=ai bA bk
 clear hX bA bk a0 ap ak bv bd be;obtain⟨bv,bd,be⟩:=bt.two;refine Km (v:=.agg #[.bool pb,.int .i64 pi,.slice cB cp zc]) (by simp[results,Tryz.results62,go_sem,bv]) rfl ?_;have aX:w.heap.size+1<aN.heap.size:=ab;refine⟨cB,cp,zc,rfl,?_,bM.1⟩;rw[←b4.1,←b4.2];refine ej.2 ⟨cB,cp,zc,rfl,H1.2.1,(H1.2.2.1.aj fun b O=>(bM.2.block b (oR O.2 aP.2.1.size) (aH O.1)).trans (aP.2.1.block b O.2 (aH O.1))).mono fun b O=>⟨by have:=O.1;omega,by have:=O.2;have:=aP.2.1.size;have:=bM.2.size;omega⟩⟩
structure qM(w:World)(s:ah)(t:Int)(f:an)(O a8 hn b2 cE n fc:Nat)(IA:Kr)(i ic:Nat)(bj:Kr)(l lc:Nat):Prop where
 fault:s.fault=0
 t0:0≤t
 tn:t<hn
 lb:O<w.heap.size
 lf:b2<w.heap.size
 cell:w.cell? ⟨O,a8+t.toNat,none⟩=some (.slice (some ⟨b2,cE,none⟩) (n+1) fc)
 c0:w.cell? ⟨b2,cE+n*4,none⟩=some (.int .i64 f.proc)
 c1:w.cell? ⟨b2,cE+n*4+1,none⟩=some (.int .i64 f.pc)
 c2:w.cell? ⟨b2,cE+n*4+2,none⟩=some (.slice IA i ic)
 c3:w.cell? ⟨b2,cE+n*4+3,none⟩=some (.slice bj l lc)
 Jg:i≤ic
 lcs:l≤lc
 ints:Sl w (au w) IA i (f.ints.map D.i)
 aw:Sl w (au w) bj l (f.aw.map D.i)
 th:∃fs,s.threads[t.toNat]?=some (fs++[f])∧fs.length=n
 n1:n+1≤fc
 nb:n≤1000000
theorem qM.on{w ac:World}{s:ah}{t:Int}{f:an}{O a8 hn b2 cE n fc:Nat}{IA:Kr}{i ic:Nat}{bj:Kr}{l lc:Nat}(h:qM w s t f O a8 hn b2 cE n fc IA i ic bj l lc)(he:Ext w ac):qM ac s t f O a8 hn b2 cE n fc IA i ic bj l lc:=
 ⟨h.fault,h.t0,h.tn,JR h.lb he.size,JR h.lf he.size,(he.cell h.lb fun h=>h).trans h.cell,(he.cell h.lf fun h=>h).trans h.c0,(he.cell h.lf fun h=>h).trans h.c1,(he.cell h.lf fun h=>h).trans h.c2,(he.cell h.lf fun h=>h).trans h.c3,h.Jg,h.lcs,h.ints.on (Fr.ext he),h.aw.on (Fr.ext he),h.th,h.n1,h.nb⟩
theorem l1.top{w:World}{s:ah}{GA TA HA:Kr}{gn tn:Nat}(h:l1 w (au w) s GA gn TA tn HA hn)(ac:Small s){t:Int}{f:an}(ht:dE s t=some f):
  ∃O a8 b2 cE n fc IA i ic bj l lc,HA=some ⟨O,a8,none⟩∧qM w s t f O a8 hn b2 cE n fc IA i ic bj l lc:=by
 obtain⟨h0,ae,fs,bm⟩:=jx ht;have hl:=h.h.1;rw[JU] at hl;have aj:=(List.getElem?_eq_some_iff.1 bm).1;obtain⟨O,a8,c9,FA,m,fc,rfl,aX,al,hc,hm,aD⟩:=h.h.xv (k:=t.toNat) ab;rw[bm] at al;injection al with al;subst al;have ay:=aD.1;simp at ay;obtain⟨b2,cE,bP,IA,i,ic,bj,l,lc,rfl,a5,a,c0,c1,c2,c3,aC,aT,a9,cl⟩:=aD.Hy (k:=fs.length) ab;simp at a;subst a;subst ay;exact⟨O,a8,b2,cE,fs.length,fc,IA,i,ic,bj,l,lc,rfl,h0,ae,ab,aX,a5,hc,c0,c1,c2,c3,aC,aT,a9,cl,⟨fs,bm,rfl⟩,hm,by have:=(ac.f _ (JT bm)).1;simp at this;omega⟩
theorem xg(c d:Value)(O a8 hn hc b2 cE n fc:Nat)(t:Int)(w:World)(h0:0≤t)(aw:t<hn)(cY:O<w.heap.size)(aV:w.cell? ⟨O,a8+t.toNat,none⟩=some (.slice (some ⟨b2,cE,none⟩) (n+1) fc))(aT:n≤1000000) :
  Calls prog 57 #[.agg #[c,d,.slice (some ⟨O,a8,none⟩) hn hc,.int .i64 0],.int .i64 t] w fun e ac=>e=.returned (.pointer (some ⟨b2,cE+n*4,none⟩))∧Ext w ac:=by
 have q1:decide (t<0)=false:=by simp;omega
 have cB:decide (t≥hn)=false:=by simp;omega
 have cv:(((n+1:Nat):Int) == 0)=false:=by simp;omega
 exact s8
theorem rG{w:World}{s:ah}{GA TA HA:Kr}{gn tn:Nat}(h:l1 w (au w) s GA gn TA tn HA hn){t:Int}(ht:dE s t=none):
  s.fault≠0∨t<0∨(hn:Int)≤t∨(0≤t∧t<hn∧∃O a8 FA fc,HA=some ⟨O,a8,none⟩∧O<w.heap.size∧w.cell? ⟨O,a8+t.toNat,none⟩=some (.slice FA 0 fc)):=by
 by_cases h0:s.fault≠0
 ·exact .inl h0
 by_cases ae:t<0
 ·exact .inr (.inl ae)
 by_cases aC:(hn:Int)≤t
 ·exact .inr (.inr (.inl aC))
 refine .inr (.inr (.inr ⟨ab,ab,?_⟩));obtain⟨O,a8,fs,FA,m,fc,rfl,aX,bm,hc,hm,aD⟩:=h.h.xv (k:=t.toNat) ab;unfold dE at ht;rw[if_neg ab,bm] at ht;have aZ:fs=[]:=by simpa using ht
 have ay:=aD.1;rw[aZ] at ay;simp at ay;subst ay;exact⟨O,a8,FA,fc,rfl,aX,hc⟩
theorem x7(s:ah)(GA TA HA:Kr)(gn gc tn tc hn hc:Nat)(t:Int)(w:World)(h:l1 w (au w) s GA gn TA tn HA hn)(ht:dE s t=none) :
  Calls prog 57 #[.agg #[.slice GA gn gc,.slice TA tn tc,.slice HA hn hc,.int .i64 s.fault],.int .i64 t] w fun e ac=>e=.returned (.pointer none)∧Ext w ac:=by
 have f:=rG h ht;clear h ht;generalize bi:s.fault=z at *;clear bi;by_cases h0:z=0
 case neg=>
  have g2:(z != 0)=true:=by simpa using h0
  clear f h0;exact s8
 subst h0;rcases f with h|h|h|⟨ae,aC,O,a8,FA,fc,rfl,aX,aV⟩
 ·exact absurd rfl h
 ·have q1:decide (t<0)=true:=by simpa using h
  clear h;exact s8
 ·have q1:decide (t<0)=false:=by simp;omega
  have cB:decide (t≥hn)=true:=by simpa using h
  clear h;exact s8
 ·have q1:decide (t<0)=false:=by simp;omega
  have cB:decide (t≥hn)=false:=by simp;omega
  exact s8
theorem rl{w:World}{s:ah}{t:Int}{f:an}{IA:Kr}{i ic:Nat}(h:qM w s t f O a8 hn b2 cE n fc IA i ic bj l lc)(c d:Value)(hc:Nat):
  Calls prog 57 #[.agg #[c,d,.slice (some ⟨O,a8,none⟩) hn hc,.int .i64 s.fault],.int .i64 t] w fun e ac=>e=.returned (.pointer (some ⟨b2,cE+n*4,none⟩))∧Ext w ac:=by
 rw[h.fault];exact xg c d O a8 hn hc b2 cE n fc t w h.t0 h.tn h.lb h.cell h.nb
namespace AW
theorem g7(h:p:=by
 have aL:af W w.heap.size 30 #[c,d,.slice (some ⟨O,a8,none⟩) hn hc,.int .i64 0]:=bg▸(Ko).alloc _;have b8:af W (w.heap.size+1) 100 #[.int .i64 0,.int .i64 0,.slice none 0 0,.slice none 0 0]:=bg▸af.ct _ _ _ (by simp);obtain⟨a0,ap,ak⟩:=aL.two;obtain⟨bv,bd,be⟩:=b8.two;replace aV:=(aF.cell (j:=a8+t.toNat) cY fun h=>h).trans aV
 replace c0:=(aF.cell (j:=cE+n*4) a5 fun h=>h).trans c0
 replace c1:=(aF.cell (j:=cE+n*4+1) a5 fun h=>h).trans c1
 replace c2:=(aF.cell (j:=cE+n*4+2) a5 fun h=>h).trans c2
 replace c3:=(aF.cell (j:=cE+n*4+3) a5 fun h=>h).trans c3
 obtain⟨a2,aX⟩:=aM aF b8;clear bg aF aL b8 cY a5;go_wp2_with(fail);generalize hX:World.setCell _ _ _=X;obtain⟨bh,bo,b0⟩:=cb (w:=w) [.int .i64 f.proc,.int .i64 f.pc,.slice IA i ic,.slice bj l lc] (by rfl) aX.o a2.o ab hX;have aP:=ad bo;clear hX bo b0 a0 ap ak bv bd be c0 c1 c2 c3 aV;obtain⟨bv,bd,be⟩:=bh.two;refine Km (v:=.tuple #[.agg #[.int .i64 f.proc,.int .i64 f.pc,.slice IA i ic,.slice bj l lc],.bool true]) (by simp[results,Tryz.results58,go_sem,bv]) rfl ?_;exact⟨rfl,aP.o⟩
 ):p:=h
end AW
open AW in
theorem m8{w:World}{s:ah}{t:Int}{f:an}{IA:Kr}{i ic:Nat}(h:qM w s t f O a8 hn b2 cE n fc IA i ic bj l lc)(c d:Value)(hc:Nat):
  Calls prog 58 #[.agg #[c,d,.slice (some ⟨O,a8,none⟩) hn hc,.int .i64 s.fault],.int .i64 t] w fun e ac=>e=.returned (.tuple #[.agg #[.int .i64 f.proc,.int .i64 f.pc,.slice IA i ic,.slice bj l lc],.bool true])∧Ext w ac:=by
 obtain⟨ae,h0,aw,cY,a5,aV,c0,c1,c2,c3,_,_,_,_,_,_,aT⟩:=h;rw[ae];have q1:decide (t<0)=false:=by simp;omega
 have cB:decide (t≥hn)=false:=by simp;omega
 have cv:(((n+1:Nat):Int) == 0)=false:=by simp;omega
 clear ae;go_enter func58,ntmps58;exact g6
namespace AX
theorem g7(h:p:=by
 have aL:af W w.heap.size 30 #[.slice GA gn gc,.slice TA tn tc,.slice (some ⟨O,a8,none⟩) hn hc,.int .i64 z]:=bg▸(Ko).alloc _;have b8:af W (w.heap.size+1) 100 #[.int .i64 0,.int .i64 0,.slice none 0 0,.slice none 0 0]:=bg▸af.ct _ _ _ (by simp);obtain⟨a0,ap,ak⟩:=aL.two;obtain⟨bv,bd,be⟩:=b8.two;replace aV:=(aF.cell (j:=a8+t.toNat) aX fun h=>h).trans aV
 have a2:=ai aF b8;clear bg aF aL b8;by_cases hm:m=0
 ·subst hm;clear c;exact As
 ·have cv:((m:Int) == 0)=false:=by simp;omega
  have cF:(z != 0)=true:=by simpa using c.resolve_left hm
  clear c hm;exact As
 ):p:=h
end AX
open AX in
theorem yk(s:ah)(GA TA HA:Kr)(gn gc tn tc hn hc:Nat)(t:Int)(w:World)(h:l1 w (au w) s GA gn TA tn HA hn)(ht:dE s t=none) :
  Calls prog 58 #[.agg #[.slice GA gn gc,.slice TA tn tc,.slice HA hn hc,.int .i64 s.fault],.int .i64 t] w fun e ac=>e=.returned (.tuple #[.agg #[.int .i64 0,.int .i64 0,.slice none 0 0,.slice none 0 0],.bool false])∧Ext w ac:=by
 have f:t<0∨(hn:Int)≤t∨(0≤t∧t<hn∧∃O a8 FA m fc,HA=some ⟨O,a8,none⟩∧O<w.heap.size∧w.cell? ⟨O,a8+t.toNat,none⟩=some (.slice FA m fc)∧(m=0∨s.fault≠0)):=by
  by_cases ae:t<0
  ·exact .inl ae
  by_cases aC:(hn:Int)≤t
  ·exact .inr (.inl aC)
  refine .inr (.inr ⟨ab,ab,?_⟩);obtain⟨O,a8,fs,FA,m,fc,rfl,aX,bm,hc,hm,aD⟩:=h.h.xv (k:=t.toNat) ab;refine⟨O,a8,FA,m,fc,rfl,aX,hc,?_⟩;rcases rG h ht with aT|aT|aT|⟨_,_,aW,cP,cR,cM,he,_,G⟩
  ·exact .inr aT
  ·omega
  ·omega
  ·injection he with he;injection he with ar bI;subst ar bI;rw[hc] at G;injection G with G;injection G with _ G _;exact .inl G
 clear h ht;generalize bi:s.fault=z at *;clear bi;rcases f with h|h|⟨ae,aC,O,a8,FA,m,fc,rfl,aX,aV,c⟩
 ·have q1:decide (t<0)=true:=by simpa using h
  exact Fe
 ·have q1:decide (t<0)=false:=by simp;omega
  have cB:decide (t≥hn)=true:=by simpa using h
  exact Fe
 ·have q1:decide (t<0)=false:=by simp;omega
  have cB:decide (t≥hn)=false:=by simp;omega
  go_enter func58,ntmps58;exact g6
structure UV where
 GA:Option Addr
 gn:Nat
 gc:Nat
 MA:Option Addr
 mn:Nat
 mc:Nat
 PA:Option Addr
 pn:Nat
 pc:Nat
structure SV where
 GA:Option Addr
 gn:Nat
 gc:Nat
 TA:Option Addr
 tn:Nat
 tc:Nat
 HA:Option Addr
 hn:Nat
 hc:Nat
abbrev UV.val(p:UV)(u:av):Array Value:=#[.slice p.GA p.gn p.gc,.slice p.MA p.mn p.mc,.slice p.PA p.pn p.pc,.int .i64 u.main]
abbrev SV.val(q:SV)(s:ah):Array Value:=#[.slice q.GA q.gn q.gc,.slice q.TA q.tn q.tc,.slice q.HA q.hn q.hc,.int .i64 s.fault]
structure UV.Ok(p:UV)(w:World)(u:av):Prop where
 at_:g5 w (au w) u p.GA p.gn p.MA p.mn p.PA p.pn
 gc:p.gn≤p.gc
 mc:p.mn≤p.mc
 pc:p.pn≤p.pc
structure SV.Ok(q:SV)(w:World)(s:ah):Prop where
 at_:l1 w (au w) s q.GA q.gn q.TA q.tn q.HA q.hn
 gc:q.gn≤q.gc
 tc:q.tn≤q.tc
 hc:q.hn≤q.hc
theorem UV.Ok.on{p:UV}{w ac:World}{u:av}(h:p.Ok w u)(he:Ext w ac):p.Ok ac u:=⟨h.at_.on he,h.gc,h.mc,h.pc⟩
theorem SV.Ok.on{q:SV}{w ac:World}{s:ah}(h:q.Ok w s)(he:Ext w ac):q.Ok ac s:=⟨h.at_.on he,h.gc,h.tc,h.hc⟩
theorem lI{u:av}(hU:cU u):elems u.ae≤5000:=by
 have ae:=eK u.ae;have aC:=dC hU.DM;omega
theorem aS.small{u:av}{N:Nat}{s:ah}(hU:cU u)(h:aS u N s)(hD:N≤100000):Small s:=by
 refine⟨by have:=h.c8;have:=hU.pK;omega,by have:=h.table;have:=dC hU.DM;omega,by have:=h.ys;omega,fun t ht=>⟨by have:=(h.fq t ht).1;omega,fun f aD=>?_⟩⟩;obtain⟨p,hp,_,ae,aC⟩:=((h.fq t ht).2 f aD).ex;have:=hU.procs p (JT hp);have:=this.ints;have:=(hU.procs p (JT hp)).aw;omega
section
variable {u:av} {N:Nat} {s:ah} {f:an} {Q:c6} {pl:bC} {w:World} {GA MA IA QA:Kr} {gn gc mn mc i ic qm qc:Nat}
theorem CO(hU:cU u)(hS:aS u N s)(hF:bQ u f)(hp:u.procs[f.proc.toNat]?=some Q)(hx:cJ (bh u) Q.locals Q.aw pl)(j:pl.param=false)
  (hm:Sl w (au w) MA mn (u.ae.map dZ)) (aJ:Sl w (au w) GA gn (s.globals.map D.i)) (al:Sl w (au w) IA i (f.ints.map D.i)) (bm:(de pl).rep w (au w) [.bool pl.param,.int .i64 pl.index,.slice QA qm qc]) :
  (qm=0∧cI u s f pl=(0,0))∨∃(e:VE) (k:Nat) (m:bA) (b o:Nat) (c0 c1 c2 c3:Value),QA=some ⟨b,o,none⟩∧qm=1∧pl.index=(k:Nat)∧yD w MA mn u.ae GA IA gn i s.globals f.ints e k m b o c0 c1 c2 c3∧nu s.globals f.ints e∧cI u s f pl=idx m.size (ev s.globals f.ints e):=by
 rcases hx with⟨ae,_⟩|⟨_,m,aC,aT,a9,cl⟩
 ·rw[j] at ae;cases ae
 obtain⟨A2,n2,c2,e,_,hs⟩:=ej.1 bm;simp only[List.cons.injEq,and_true,true_and] at e;injection e with bs cG bG;subst bs cG bG;have S:u.ae[pl.index.toNat]?=some m:=aT;by_cases bi:0<m.size
 ·obtain⟨x,hx,qw⟩:=a9 bi;right;rw[hx] at hs;simp only[Option.toList_some,JW,Kd] at hs;obtain rfl:qm=1:=hs.1.symm;obtain⟨b,o,br,Z,ax,E,rfl,O,aU,c0,c1,c2,c3⟩:=hs.C2 (cZ x);obtain⟨a8,a,_⟩:=w6 hS hF hp qw;have xW:=aJ.1;have aK:=al.1;have fJ:=hm.1;rw[JU] at xW aK fJ;have aj:=(List.getElem?_eq_some_iff.1 S).1;refine⟨x,pl.index.toNat,m,b,o,br,Z,ax,E,rfl,rfl,ab,⟨⟨aJ.ints,al.ints,by rw[←xW,←aK];exact a8,ki x _ aU⟩,hm.qG,ab,S,O,c0,c1,c2,c3⟩,a,?_⟩;unfold cI;rw[hx,S];rfl
 ·left;rw[cl bi] at hs;refine⟨hs.1.symm,?_⟩;unfold cI;rw[cl bi]
theorem GB(hU:cU u)(hS:aS u N s)(hF:bQ u f)(hp:u.procs[f.proc.toNat]?=some Q)(hx:cJ (bh u) Q.locals Q.aw pl)(j:pl.param=false)
  (hm:Sl w (au w) MA mn (u.ae.map dZ)) (aJ:Sl w (au w) GA gn (s.globals.map D.i)) (al:Sl w (au w) IA i (f.ints.map D.i)) (bm:(de pl).rep w (au w) [.bool pl.param,.int .i64 pl.index,.slice QA qm qc]) :
  Calls prog 64 #[.agg #[.bool false,.int .i64 pl.index,.slice QA qm qc],.slice MA mn mc,.slice GA gn gc,.slice IA i ic] w (fH w (cI u s f pl)):=by
 rcases CO hU hS hF hp hx j hm aJ al bm with⟨rfl,h⟩|⟨e,k,m,b,o,c0,c1,c2,c3,rfl,rfl,aj,hI,_,h⟩
 ·rw[h];exact uF _ _ _ _ _ _ _ _
 ·rw[h,aj];exact xy _ _ _ _ _ _ _ _ _ _ _ _ _ _ _ _ _ _ _ _ _ _ _ hI
theorem GK(hU:cU u)(hS:aS u N s)(hF:bQ u f)(hp:u.procs[f.proc.toNat]?=some Q)(hx:cJ (bh u) Q.locals Q.aw pl)(j:pl.param=false)
  (hm:Sl w (au w) MA mn (u.ae.map dZ)) (aJ:Sl w (au w) GA gn (s.globals.map D.i)) (al:Sl w (au w) IA i (f.ints.map D.i)) (bm:(de pl).rep w (au w) [.bool pl.param,.int .i64 pl.index,.slice QA qm qc]) :
  Calls prog 67 #[.agg #[.bool false,.int .i64 pl.index,.slice QA qm qc],.slice MA mn mc,.slice GA gn gc,.slice IA i ic] w (fH w (cI u s f pl)):=by
 rcases CO hU hS hF hp hx j hm aJ al bm with⟨rfl,h⟩|⟨e,k,m,b,o,c0,c1,c2,c3,rfl,rfl,aj,hI,a,h⟩
 ·rw[h];exact qI _ _ _ _ _ _ _ _
 ·rw[h,aj];exact sG _ _ _ _ _ _ _ _ _ _ _ _ _ _ _ _ _ _ _ _ _ _ _ hI a
end
end Go.Proofs.YtbkhhfajcgkpgaaGreat

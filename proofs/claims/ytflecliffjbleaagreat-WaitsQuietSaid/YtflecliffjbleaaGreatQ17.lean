/- Part 17 of the proof. No condition of its own. -/
import Derived.Test.YtflecliffjbleaaGreatQ16
namespace Go.Proofs.YtflecliffjbleaaGreat
open Go.RowKit Go.Proofs.Tryz
set_option maxRecDepth 1000000
set_option maxHeartbeats 25600000
set_option linter.unusedVariables false
variable{a:Act}{fs:List al}{O bl c fc hn l lc n:Nat}{o:Oper}{FA S:LP}{p:Prop}
section
variable {P:Program} {e t:TypeId} {z:Value} {size bytes:Nat}
theorem gJ(A:LP)(n c:Nat):(bA A n c).Nodup:=by unfold bA;cases (Value.slice A n c).ownBlock<;>simp
namespace Bz
theorem A0(h:p:=by
 refine h I aA ac ⟨bJ,rfl⟩ (LL.grown aK λg aK=>.inl (by rw[h0.eq];simp[aK])) λb O=>?_;have aX:(Value.slice I (n+1) aA).ownBlock=some b:=by simpa using O
 rcases H with H|H
 .rw[H] at aX;exact .inl (by rw[h0.eq];simp[aX])
 .have:=(bJ.lt b aX).2;rw[H] at aX;injection aX with aX;right;simp at aX;omega
 ):p:=h
end Bz
open Bz in
theorem F3{S:World}{K:Act->World->Prop}{Q:Exit->Act->World->Prop}(bp:ca P t e z size bytes)(s x:Operand)
  (bl:o.op=.call {callee:=.builtin .append,args:=#[s,x],argTypes:=#[t,t]})
  {A:LP} {n c:Nat} {xs:List Value} {F:List Nat} (h0:Own S e size A n c xs F) {cs:Array Value}
  (hs:a.eval s=.slice A n c) (hx:a.eval x=.slice (some ⟨S.heap.size,0,none⟩) 1 1) (T:cs.size=size) (ae:∀u∈cs.toList,u.oneCell'=true)
  (y:(n+1)*bytes<=140737488355328) (C:n+1<=140737488355328)
  (h:∀I aA ac,Own ac e size I (n+1) aA (xs++cs.toList) (bA I (n+1) aA)->Fr (λb=>b∈F) S ac->(∀b∈bA I (n+1) aA,b∈F\/(S.heap.size<=b/\b<ac.heap.size))->K (a.put o.dst (.slice I (n+1) aA)) ac):o.wp P a (S.alloc (.cells cs e)) K Q:=by
 refine kf _ bp s x bl 0 _ n xs hs (h0.row.alloc _) _ 1 1 cs.toList hx (Src.block (heap_alloc_new S _) 1 ab ae) y C (Lx _) (λh=>nomatch h) λG ac bJ aZ H=>?_;exact AZ
theorem vk{S:World}{ops:Array Oper}{rest:List Oper}{Q:Exit->Act->World->Prop}(bp:ca P t e z size bytes)(i:o.guard=none)(s x:Operand)
  (bl:o.op=.call {callee:=.builtin .append,args:=#[s,x],argTypes:=#[t,t]})
  {A:LP} {n c:Nat} {xs:List Value} {F:List Nat} (h0:Own S e size A n c xs F) {cs:Array Value}
  (hs:a.eval s=.slice A n c) (hx:a.eval x=.slice (some ⟨S.heap.size,0,none⟩) 1 1) (T:cs.size=size) (ae:∀u∈cs.toList,u.oneCell'=true)
  (y:(n+1)*bytes<=140737488355328) (C:n+1<=140737488355328)
  (h:∀I aA ac,Own ac e size I (n+1) aA (xs++cs.toList) (bA I (n+1) aA)->Fr (λb=>b∈F) S ac->(∀b∈bA I (n+1) aA,b∈F\/(S.heap.size<=b/\b<ac.heap.size))->wpList P ops Q rest (a.put o.dst (.slice I (n+1) aA)) ac):wpList P ops Q (o::rest) a (S.alloc (.cells cs e)):=
 wpList_plain i λ_ hK=>F3 bp s x bl h0 hs hx T ae y C λI aA ac b9 g2 cI=>hK _ _ (h I aA ac b9 g2 cI)
end
theorem x5{ax af f I:List Nat}{a b:Nat}(h:(ax++af).Nodup)(aw:∀x∈ax++af,x<a)(hI:I.Nodup)(d:∀x∈I,a<=x/\x<b)(hK:f.Nodup)(g:∀x∈f,x∈ax\/b<=x)(ah:a<=b):(f++(af++I)).Nodup:=by
 have h0:=List.nodup_append.1 h;refine List.nodup_append.2 ⟨hK,List.nodup_append.2 ⟨h0.2.1,hI,λx hx y a4 c=>?_⟩,λx hx y a4 c=>?_⟩
 .have:=aw x (by simp[hx]);have:=d y a4;omega
 .subst c;rcases Lk.1 a4 with a4|a4
  .rcases g x hx with ae|ae
   .exact h0.2.2 x ae x a4 rfl
   .have:=aw x (by simp[a4]);omega
  .have aD:=d x a4;rcases g x hx with ae|ae
   .have:=aw x (by simp[ae]);omega
   .omega
theorem HB{X Y:List Nat}{m:Nat}(hX:X.Nodup)(b7:Y.Nodup)(ae:∀x∈X,x<m)(aD:∀y∈Y,m<=y):(X++Y).Nodup:=
 List.nodup_append.2 ⟨hX,b7,λx hx y a4 c=>by have:=ae x hx;have:=aD y a4;omega⟩
theorem wC{F1 F2 L N:List Nat}:(F1++(F2++(L++N))).Nodup↔(L++(F1++(F2++N))).Nodup:=by
 have h:(F1++(F2++(L++N))).Perm (L++(F1++(F2++N))):=by
  rw[<-List.append_assoc F1 F2,<-List.append_assoc (F1++F2) L,<-List.append_assoc F1 F2 N,<-List.append_assoc L];exact List.perm_append_comm.append_right N
 exact h.nodup_iff
structure Small(s:ag):Prop where
 g:s.globals.length<=1000
 t:s.table.length<=5000
 h:s.threads.length<=1000
 f:∀t∈s.threads,t.length<=1000000/\∀f∈t,f.ints.length<=100000/\f.aw.length<=100000
structure HW(B:Nat)(w:World)(s:ag)(GA:LP)(gn gc:Nat)(TA:LP)(tn tc r k:Nat)(HA:LP)(hc:Nat)(xs:List Value)(L N:List Nat):Prop where
 st:ri w {s with threads:=s.threads.take k} GA gn gc TA tn tc HA k hc xs (bA GA gn gc) (bA TA tn tc) L N
 o:an w r 30 #[.slice GA gn gc,.slice TA tn tc,.slice HA k hc,.int .i64 s.fault]
 ne:r∉bA GA gn gc++(bA TA tn tc++(L++N))
 lo:∀b∈bA GA gn gc++(bA TA tn tc++(L++N)),B<=b/\b<w.heap.size
 go:B<=r
section
variable {B:Nat} {w ac:World} {s:ag} {GA TA HA:LP} {gn gc tn tc r k hc:Nat} {xs:List Value} {L N:List Nat}
theorem HW.aj(h:HW B w s GA gn gc TA tn tc r k HA hc xs L N)(he:Ext w ac):HW B ac s GA gn gc TA tn tc r k HA hc xs L N:=
 ⟨h.st.ai λb O=>he.block b (h.lo b O).2 λh=>h,h.o.aj he,h.ne,λb O=>⟨(h.lo b O).1,Lc (h.lo b O).2 he.size⟩,h.go⟩
theorem HW.step(h:HW B w s GA gn gc TA tn tc r k HA hc xs L N)(br:s.threads[k]?=some fs){a2:List Value}{ax af:List Nat}{aP aV:World}(he:Ext w aP)
  (bl:Own aP 99 4 FA n c a2 ax) (J:ki pv aP fs a2 af) (hn:n=fs.length) (nd:(ax++af).Nodup) (hK:∀b∈ax++af,w.heap.size<=b/\b<aP.heap.size)
  {d:LP} {a9:Nat} (aQ:Own aV 49 1 d (k+1) a9 (xs++[.slice FA n c]) (bA d (k+1) a9)) (H:Fr (λb=>b∈L) aP aV) (T:∀b∈bA d (k+1) a9,b∈L\/(aP.heap.size<=b/\b<aV.heap.size)) {X:World}
  (hX:aV.setCell ⟨r,2,none⟩ (.slice d (k+1) a9)=X):HW B X s GA gn gc TA tn tc r (k+1) d a9 (xs++[.slice FA n c]) (bA d (k+1) a9) (N++(ax++af)):=by
 have hw:=he.size;have bH:=H.size;have c4:r<w.heap.size:=h.o.lt;have o:=h.st.nd;have m:=wC.1 o;have n2:=List.nodup_append.1 m;have l:∀b∈bA GA gn gc++(bA TA tn tc++N),b∉L:=λb O aU=>n2.2.2 b aU b O rfl;have aw:∀b∈bA GA gn gc++(bA TA tn tc++N),b<w.heap.size/\b≠r:=λb O=>by
  have aX:b∈bA GA gn gc++(bA TA tn tc++(L++N)):=by
   exact zC
  exact⟨(h.lo b aX).2,λhe=>h.ne (he▸aX)⟩
 have cl:∀b∈L,b<w.heap.size/\b≠r:=λb O=>by
  have aX:b∈bA GA gn gc++(bA TA tn tc++(L++N)):=by simp[O]
  exact⟨(h.lo b aX).2,λhe=>h.ne (he▸aX)⟩
 have j:∀b,b≠r->X.heap[b]?=aV.heap[b]?:=λb O=>by rw[<-hX];exact aN O
 have bI:X.heap.size=aV.heap.size:=by rw[<-hX];simp[World.setCell]
 have f:∀b∈bA GA gn gc++(bA TA tn tc++N),X.heap[b]?=w.heap[b]?:=λb O=>
  (j b (aw b O).2).trans ((H.block b (by have:=(aw b O).1;omega) (l b O)).trans (he.block b (aw b O).1 λh=>h))
 have g:∀b∈ax++af,X.heap[b]?=aP.heap[b]?:=λb O=>
  (j b (aC (hK b O))).trans (H.block b (hK b O).2 λaU=>by have:=hK b O;have:=(cl b aU).1;omega)
 have i:∀b∈bA d (k+1) a9,b≠r:=λb O=>by
  rcases T b O with ae|ae
  .exact(cl b ae).2
  .omega
 have aS:oE X fs [.slice FA n c] (ax++af):=⟨FA,n,c,a2,ax,af,rfl,rfl,hn,bl.ai λb O=>g b (by simp[O]),J.ai pv.ai λb O=>g b (by simp[O])⟩
 have dG:s.threads.take (k+1)=s.threads.take k++[fs]:=a1 br;refine⟨⟨h.st.gl,h.st.tl,?_,h.st.g.ai λb O=>f b (by simp only[Lk];exact .inl O),h.st.t.ai λb O=>f b (by simp only[Lk];exact .inr (.inl O)),aQ.ai λb O=>j b (i b O),?_,?_⟩,?_,?_,λb O=>?_,h.go⟩
 .have:=h.st.hl;show k+1=(s.threads.take (k+1)).length
  rw[dG,Ld,<-this];rfl
 .show ki oE X (s.threads.take (k+1)) _ _
  rw[dG];exact(h.st.hs.ai oE.ai λb O=>f b (by simp[O])).snoc aS
 .refine wC.2 ?_;rw[show bA GA gn gc++(bA TA tn tc++(N++(ax++af)))=(bA GA gn gc++(bA TA tn tc++N))++(ax++af) by simp];refine x5 (a:=w.heap.size) (b:=aP.heap.size) m (λx hx=>?_) nd hK (gJ _ _ _) (λx hx=>(T x hx).imp id λh=>h.1) hw;rcases Lk.1 hx with hx|hx
  .exact(cl x hx).1
  .exact(aw x hx).1
 .have:=(h.o.aj he).on H λaU=>(cl _ aU).2 rfl;rw[<-hX];exact this.aD 2 _
 .intro aK;simp only[Lk] at aK;have ae:=h.ne;simp only[Lk] at ae;rcases aK with aK|aK|aK|aK|aK|aK
  .exact ae (.inl aK)
  .exact ae (.inr (.inl aK))
  .exact i _ aK rfl
  .exact ae (.inr (.inr (.inr aK)))
  .have:=hK r (by simp[aK]);omega
  .have:=hK r (by simp[aK]);omega
 .rw[bI];simp only[Lk] at O;have hl:=h.lo;rcases O with O|O|O|O|O|O
  .have:=hl b (by simp[O]);omega
  .have:=hl b (by simp[O]);omega
  .rcases T b O with ae|ae
   .have:=hl b (by simp[ae]);omega
   .have:=h.go;omega
  .have:=hl b (by simp[O]);omega
  .have:=hK b (by simp[O]);have:=h.go;omega
  .have:=hK b (by simp[O]);have:=h.go;omega
end
theorem GK:ca prog 47 99 (.agg #[.int .i64 0,.int .i64 0,.slice none 0 0,.slice none 0 0]) 4 64:=ca.mk' Tryz.underlying47 (by kernel_rfl) rfl ab
theorem C0:ca prog 28 49 (.agg #[.slice none 0 0]) 1 24:=ca.mk' Tryz.underlying28 (by kernel_rfl) rfl ab
theorem Own.aj{w ac:World}{e:TypeId}{z:Nat}{A:LP}{xs:List Value}{F:List Nat}(h:Own w e z A n c xs F)(he:Ext w ac):Own ac e z A n c xs F:=h.ai λb O=>he.block b (h.lt b O) λh=>h
structure HX(aV wr:World)(fs:List al)(j:Nat)(FA:LP)(fc:Nat)(a2:List Value)(ax af:List Nat):Prop where
 ext:Ext aV wr
 o:Own wr 99 4 FA j fc a2 ax
 f:ki pv wr (fs.take j) a2 af
 nd:(ax++af).Nodup
 lo:∀b∈ax++af,aV.heap.size<=b/\b<wr.heap.size
theorem HX.aj{aV wr ac:World}{fs:List al}{j:Nat}{FA:LP}{fc:Nat}{a2:List Value}{ax af:List Nat}(h:HX aV wr fs j FA fc a2 ax af)(he:Ext wr ac):HX aV ac fs j FA fc a2 ax af:=
 ⟨h.ext.trans he,h.o.aj he,h.f.ai pv.ai λb O=>he.block b (h.lo b (by simp[O])).2 λh=>h,h.nd,λb O=>⟨(h.lo b O).1,Lc (h.lo b O).2 he.size⟩⟩
theorem HX.step{aV wr:World}{j:Nat}{a2:List Value}{ax af:List Nat}(h:HX aV wr fs j FA fc a2 ax af){f:al}(br:fs[j]?=some f){a b c:World}{IA:LP}{i ic:Nat}
  (ar:Ext wr a) (hI:Own a 3 1 IA i ic (f.ints.map eJ) (bA IA i ic)) (d:∀x∈bA IA i ic,wr.heap.size<=x/\x<a.heap.size) (ak:i=f.ints.length)
  (bU:Ext a b) (bo:Own b 3 1 S l lc (f.aw.map eJ) (bA S l lc)) (aI:∀x∈bA S l lc,a.heap.size<=x/\x<b.heap.size) (hl:l=f.aw.length)
  {cV:LP} {cd:Nat} (bl:Own c 99 4 cV (j+1) cd (a2++[.int .i64 f.proc,.int .i64 f.pc,.slice IA i ic,.slice S l lc]) (bA cV (j+1) cd)) (J:Fr (λx=>x∈ax) b c) (T:∀x∈bA cV (j+1) cd,x∈ax\/(b.heap.size<=x/\x<c.heap.size)) :
  HX aV c fs (j+1) cV cd (a2++[.int .i64 f.proc,.int .i64 f.pc,.slice IA i ic,.slice S l lc]) (bA cV (j+1) cd) (af++(bA IA i ic++bA S l lc)):=by
 have F:=h.ext.size;have s1:=ar.size;have s2:=bU.size;have ai:=J.size;have O:=(h.aj ar).aj bU;have aG:∀x∈ax,x<wr.heap.size:=λx hx=>(h.lo x (by simp[hx])).2;have a6:∀x∈af,x∉ax:=λx hx ae=>(List.nodup_append.1 h.nd).2.2 x ae x hx rfl;have H:pv c f [.int .i64 f.proc,.int .i64 f.pc,.slice IA i ic,.slice S l lc] (bA IA i ic++bA S l lc):=
  ⟨IA,i,ic,S,l,lc,_,_,rfl,rfl,ak,hl,(hI.aj bU).ai λx hx=>J.block x (aC (d x hx)) λae=>by have:=d x hx;have:=aG x ae;omega,bo.ai λx hx=>J.block x (aI x hx).2 λae=>by have:=aI x hx;have:=aG x ae;omega⟩
 refine⟨Fr.low (M:=λx=>x∈ax) (Fr.trans (Fr.mono O.ext λ_ h=>h.elim) J) λx hx=>(h.lo x (by simp[hx])).1,bl,?_,?_,λx hx=>?_⟩
 .rw[a1 br];exact(O.f.ai pv.ai λx hx=>J.block x (by have:=(h.lo x (by simp[hx])).2;omega) (a6 x hx)).snoc H
 .refine x5 (a:=wr.heap.size) (b:=b.heap.size) h.nd (λx hx=>(h.lo x hx).2) (HB (m:=a.heap.size) (gJ _ _ _) (gJ _ _ _) (λx hx=>(d x hx).2) λx hx=>(aI x hx).1) (λx hx=>?_) (gJ _ _ _) (λx hx=>(T x hx).imp id λh=>h.1) ab;rcases Lk.1 hx with hx|hx
  .have:=d x hx;omega
  .have:=aI x hx;omega
 .simp only[Lk] at hx;rcases hx with hx|hx|hx|hx
  .rcases T x hx with ae|ae
   .have:=h.lo x (by simp[ae]);omega
   .omega
  .have:=h.lo x (by simp[hx]);omega
  .have:=d x hx;omega
  .have:=aI x hx;omega
section
variable {P:Program} {ops:Array Oper} {Q:Exit->Act->World->Prop} {R:World->World->Prop} {tails:List Nat}
end
def zu(w:World)(op num:Int)(gT:ByteArray)(l:List VE)(e:Ending)(ac:World):Prop:=∃A n c,e=.returned (.agg #[.int .i64 op,.int .i64 num,.string gT,.slice A n c])/\n<=c/\Sl ac (fresh w ac) A n (l.map bf)/\Ext w ac
def xn(x:VE):Prop:=∀(w:World) (A:LP) (n c:Nat),Sl w (au w) A n (x.args.map bf)->Calls prog 74 #[.agg #[.int .i64 x.aZ,.int .i64 x.numOf,.string x.bk,.slice A n c]] w (zu w x.aZ x.numOf x.bk x.args)
namespace BA
theorem jU(h:p:=by
 generalize hX:World.setCell aV _ _=Y;have bj:=dj hX;have a5:=ad (show Ext w Y/\an Y w.heap.size 56 #[.int .i64 op,.int .i64 num,.string gT,.slice ck (k+1) c3]/\an Y (w.heap.size+1) 56 #[.int .i64 0,.int .i64 0,.string ⟨#[]⟩,.slice none 0 0]/\Gr (λb=>w.heap.size+2<=b) (w.heap.size+2) 56 4 Y ck (k+1) c3 ((l.take (k+1)).map bf) from
  ⟨Fr.low (M:=λb=>b=w.heap.size) (Fr.trans (Fr.mono bt.1 λ_ h=>h.elim) bj) λb O=>ab,by rw[<-hX];exact bt.2.1.aD 3 _,bt.2.2.1.on bj ab,by
   rw[a1 bP.1,Li];exact bt.2.2.2.cS bj λb O _=>⟨ab,ab⟩⟩)
 clear hX bj a0 ap aj bW;go_wp2;go_roundw
 case rel=>exact⟨k+1,ck,c3,by go_num,ab,a5.o⟩
 case measure=>exact az
 ):p:=h
theorem vJ(h:p:=by
 have bP:=ah a4 cw;have bQ:=ad (ct.o y (Le a4));clear a4 bS cw Z bi O aE aN cg hG;go_upto_region 6 with(fail);generalize hU:World.alloc _ _=U;have ca:=bb hU;have cM:=aT hU;have c8:=ca.size;have bF:=aR.2.1.aj ca;have cv:=dq (aR.1.trans ca) bF (aR.2.2.1.aj ca) (aR.2.2.2.aj ca) (bP.2.on (Fr.ext ca));obtain⟨d0,af,aS⟩:=cM.two;obtain⟨a0,ap,aj⟩:=bF.two;clear hU ca cM bF c0 c1 c2 c3 aX;refine eU (λ_=>False) [(0,3),(1,0),(2,0),(3,1),(4,1),(5,2),(6,3),(7,2)] ?_;refine pf ?_
 iterate 2 refine ph ?_
 refine aO rfl (λK hK=>?_);go_simp;refine(bQ.o _ _ _ _ (cv.2.2.2.2.on (Fr.ext (Fr.refl _ U).drew))).mono ?_;rintro e aP ⟨cx,cp,zc,rfl,bL,bB,ar⟩;have H1:=aL bB bL ar;refine ei hK (ar) ?_;clear hK K;have aF:Ext U aP:=Fr.aQ ar;have cD:=cv.2.2.2.1.aj aF;have b6:=aF.size;have ax:∀b,(Value.slice I k aA).ownBlock=some b->b<U.heap.size:=λb O=>(cv.2.2.2.1.lt O).2;have hd:(bf y).rep aP (lu (λb=>w.heap.size+2<=b) aP (.slice I k aA)) (#[.int .i64 y.aZ,.int .i64 y.numOf,.string y.bk,.slice cx cp zc]:Array Value).toList:=
  aW.2 ⟨cx,cp,zc,rfl,bL,bB.mono λb O=>⟨by have:=O.1;have:U.drew.heap.size=U.heap.size:=rfl;omega,O.2,λh=>by have:=ax b h;have:=O.1;have:U.drew.heap.size=U.heap.size:=rfl;omega⟩⟩
 have bp:=ah cD hd;clear bB bL ar cD hd ax;refine r9 ?_;refine aq rfl (λK hK=>?_);rw[if_pos (by rfl)];refine q2 pI (.tmp 16) (.tmp 19) rfl bp.1 bp.2 rfl rfl rfl ab ab ab ?_;intro ck c3 aV b9 g2 cI cL;have aG:∀b,(Value.slice I k aA).ownBlock=some b->w.heap.size+2<=b:=λb O=>(bp.1.lt O).1;have bW:=(cv.2.1.aj aF).on g2 (λh=>by have:=aG _ h;omega);have ba:=(cv.2.2.1.aj aF).on g2 (λh=>by have:=aG _ h;omega);have bu:Ext w aV:=Fr.low (M:=λb=>(Value.slice I k aA).ownBlock=some b) (Fr.trans (Fr.mono (cv.1.trans aF) λ_ h=>h.elim) g2) λb O=>by have:=aG b O;omega
 have bt:=bG bu bW ba b9;clear b9 g2 cI cL aG ba bu a0 ap aj d0 af aS;obtain⟨a0,ap,aj⟩:=bW.two;exact l2
 ):p:=h
end BA
open BA in
theorem fI(op num:Int)(gT:ByteArray)(l:List VE)(ao:∀y∈l,xn y)(hl:l.length<=2)(w:World)(A:LP)(n c:Nat)(h:Sl w (au w) A n (l.map bf)) :
  Calls prog 74 #[.agg #[.int .i64 op,.int .i64 num,.string gT,.slice A n c]] w (zu w op num gT l):=by
 have hn:n<=2:=by have:=h.1;simp at this;omega
 have f:=ad (show l.length=n by have:=h.1;simpa using this);obtain⟨H,ct⟩:=aM h ao;clear h ao hl;go_enter func74,ntmps74;go_upto_region 1 with(fail);generalize be:World.alloc _ _=W;have m:=im be;have ci:=fU be;have i:=fL be;obtain⟨a0,ap,aj⟩:=ci.two;clear be;go_upto_region 3 with(fail);generalize hX:World.setCell _ _ _=X;have J:=dj hX;have aE:Ext w X:=Fr.low (M:=λb=>b=w.heap.size) (Fr.trans (Fr.mono m λ_ h=>h.elim) J) λb O=>ab;have aN:an X w.heap.size 56 #[.int .i64 op,.int .i64 num,.string gT,.slice none 0 0]:=hX▸ci.aD 3 _;have cg:an X (w.heap.size+1) 56 #[.int .i64 0,.int .i64 0,.string ⟨#[]⟩,.slice none 0 0]:=i.on J ab;clear J m ci i a0 ap aj;have aR:=aL aE aN cg;clear hX aE aN cg;go_wp2_with(fail);go_loopw [11] (λce wr=>∃(k:Nat) (I:LP) (aA:Nat),ce=.int .i64 k/\k<=n/\Ext w wr/\an wr w.heap.size 56 #[.int .i64 op,.int .i64 num,.string gT,.slice I k aA]/\an wr (w.heap.size+1) 56 #[.int .i64 0,.int .i64 0,.string ⟨#[]⟩,.slice none 0 0]/\Gr (λb=>w.heap.size+2<=b) (w.heap.size+2) 56 4 wr I k aA ((l.take k).map bf)) (λce _=>n - (intOf ce).toNat)
 case atStart=>exact⟨0,none,0,rfl,ab,aR.1,aR.2.1,aR.2.2,Gr.nil _ _ _ _ _⟩
 case round=>
  obtain⟨k,I,aA,rfl,ai,aE,aN,cg,hG⟩:=hrel;clear aR;have aR:=bG aE aN cg hG;have bR:=cg.lt;by_cases aw:k<n
  .obtain⟨b,o,y,cs,rfl,O,a4,bS,bi,Z⟩:=(H.on (Fr.ext aE)).gZ dg aw;exact vI
  .obtain rfl:k=n:=ab;obtain⟨a0,ap,aj⟩:=aN.two;obtain⟨bE,bg,bh⟩:=cg.two;clear aE aN cg hG;go_wp2_with(fail);generalize hX:World.setCell _ _ _=Y;obtain⟨bz,bA,bj⟩:=cm (w:=w) [.int .i64 op,.int .i64 num,.string gT,.slice I k aA] (by rfl) aR.2.2.1 aR.1 ab hX;have bP:=ah bA bj;clear hX bA bj a0 ap aj bE bg bh;obtain⟨bE,bg,bh⟩:=bz.two;refine LK (v:=.agg #[.int .i64 op,.int .i64 num,.string gT,.slice I k aA]) (by simp[results,Tryz.results74,go_sem,bE]) rfl ?_;have aK:=aR.2.2.2.cS bP.2 λb O _=>⟨ab,ab⟩
   rw[Lj (aC f.o)] at aK;exact⟨I,k,aA,rfl,aK.cap.1,aK.sl (λb aw O=>⟨ab,aw⟩) (λb aw O=>⟨ab,aw⟩),bP.1⟩
theorem jG:∀x:VE,xn x
 | .num n=>λw A m c h=>fI 1 n ⟨#[]⟩ [] (by simp) (by simp) w A m c h
 | .gT s=>λw A m c h=>fI 2 0 s [] (by simp) (by simp) w A m c h
 | .loc k=>λw A m c h=>fI 18 k ⟨#[]⟩ [] (by simp) (by simp) w A m c h
 | .iz k=>λw A m c h=>fI 19 k ⟨#[]⟩ [] (by simp) (by simp) w A m c h
 | .un op x=>λw A m c h=>fI op 0 ⟨#[]⟩ [x] (λy a4=>by rw[LF.1 a4];exact jG x) (by simp) w A m c h
 | .bin op x y=>λw A m c h=>fI op 0 ⟨#[]⟩ [x,y] (λz ba=>by
   simp only[Lr,List.not_mem_nil,or_false] at ba;rcases ba with ba|ba
   .rw[ba];exact jG x
   .rw[ba];exact jG y) (by simp) w A m c h
theorem yU(o:Option VE)(w:World)(eo en:Int)(es:ByteArray)(A:LP)(n c:Nat)(h:(oH o).rep w (au w) [.int .i64 eo,.int .i64 en,.string es,.slice A n c]) :
  Calls prog 74 #[.agg #[.int .i64 eo,.int .i64 en,.string es,.slice A n c]] w λe ac=>∃I a5 aA,e=.returned (.agg #[.int .i64 eo,.int .i64 en,.string es,.slice I a5 aA])/\(oH o).rep ac (fresh w ac) [.int .i64 eo,.int .i64 en,.string es,.slice I a5 aA]/\Ext w ac:=by
 cases o with
 | none=>
  obtain⟨A2,c2,e⟩:=fa.1 h;simp only[List.cons.injEq,and_true] at e;obtain⟨e1,e2,e3,cF⟩:=e;injection e1 with _ e1;injection e2 with _ e2;injection e3 with e3;injection cF with cF cN bH;subst e1 e2 e3 cF cN bH;refine(fI 0 0 ⟨#[]⟩ [] (by simp) (by simp) w _ 0 c (Sl.bN _)).mono ?_;rintro e ac ⟨I,a5,aA,rfl,ae,aD,aU⟩;obtain rfl:a5=0:=aD.1.symm
  exact⟨I,0,aA,rfl,fa.2 ⟨I,aA,rfl⟩,aU⟩
 | some x=>
  obtain⟨A2,n2,c2,e,hc,hs⟩:=aW.1 h;simp only[List.cons.injEq,and_true] at e;obtain⟨e1,e2,e3,cF⟩:=e;injection e1 with _ e1;injection e2 with _ e2;injection e3 with e3;injection cF with cF cN bH;subst e1 e2 e3 cF cN bH;refine(jG x w _ _ _ hs).mono ?_;rintro e ac ⟨I,a5,aA,rfl,ae,aD,aU⟩;exact⟨I,a5,aA,rfl,aW.2 ⟨I,a5,aA,rfl,ae,aD⟩,aU⟩
def G6(w:World)(l:List VE)(e:Ending)(ac:World):Prop:=∃A n c,e=.returned (.slice A n c)/\n<=c/\Sl ac (fresh w ac) A n (l.map bf)/\Ext w ac
namespace BB
theorem vJ(h:p:=by
 have bP:=ah a4 cw;clear a4 bS cw Z bi O aE hG;go_upto_region 5 with(fail);generalize hU:World.alloc _ _=U;have ca:=bb hU;have cM:=aT hU;have c8:=ca.size;have cv:=aL (aR.1.trans ca) (aR.2.aj ca) (bP.2.on (Fr.ext ca));obtain⟨d0,af,aS⟩:=cM.two;clear hU ca cM c0 c1 c2 c3 aX;go_wp2_with(fail);refine(jG y _ _ _ _ cv.2.2).mono ?_;rintro e aP ⟨cx,cp,zc,rfl,bL,bB,aF⟩;have cD:=cv.2.1.aj aF;have b6:=aF.size;have ax:∀b,(Value.slice I k aA).ownBlock=some b->b<U.heap.size:=λb O=>(cv.2.1.lt O).2;have hd:(bf y).rep aP (lu (λb=>w.heap.size<=b) aP (.slice I k aA)) (#[.int .i64 y.aZ,.int .i64 y.numOf,.string y.bk,.slice cx cp zc]:Array Value).toList:=
  aW.2 ⟨cx,cp,zc,rfl,bL,bB.mono λb O=>⟨by have:=O.1;omega,O.2,λh=>by have:=ax b h;have:=O.1;omega⟩⟩
 have H1:=aL (cv.1.trans aF) cD hd;clear bB bL aF cD hd ax d0 af aS;go_wp2_with(at_builtin;refine bI pI rfl (.tmp 12) (.tmp 15) rfl H1.2.1 H1.2.2 rfl rfl rfl ab ab ab ?_;intro ck c3 aV b9 g2 cI cL;have bY:=ah b9 g2;clear b9 g2 cI cL);have aG:∀b,(Value.slice I k aA).ownBlock=some b->w.heap.size<=b:=λb O=>(H1.2.1.lt O).1;have a2:Ext w aV:=Fr.low (M:=λb=>(Value.slice I k aA).ownBlock=some b) (Fr.trans (Fr.mono H1.1 λ_ h=>h.elim) bY.2) λb O=>aG b O;have a7:=ad a2;clear aG a2;go_roundw
 case rel=>exact⟨k+1,ck,c3,rfl,by go_num,ab,a7.o,by rw[a1 bP.1,Li];exact bY.1⟩
 case measure=>exact az
 ):p:=h
end BB
open BB in
theorem qo(l:List VE)(hl:l.length<=100000)(w:World)(A:LP)(n c:Nat)(h:Sl w (au w) A n (l.map bf)) :
  Calls prog 76 #[.slice A n c] w (G6 w l):=by
 have bj:l.length=n:=by have:=h.1;simpa using this
 have hn:n<=100000:=ab;obtain⟨f,H⟩:=aM bj h;clear h hl bj;go_enter func76,ntmps76;go_wp2_with(fail);go_loopw [3,8] (λsv ce wr=>∃(k:Nat) (I:LP) (aA:Nat),sv=.slice I k aA/\ce=.int .i64 k/\k<=n/\Ext w wr/\Gr (λb=>w.heap.size<=b) w.heap.size 56 4 wr I k aA ((l.take k).map bf)) (λ_ ce _=>n - (intOf ce).toNat)
 case atStart=>exact⟨0,none,0,rfl,rfl,ab,LL,Gr.nil _ _ _ _ _⟩
 case round=>
  obtain⟨k,I,aA,rfl,rfl,ai,aE,hG⟩:=hrel;have aR:=ah aE hG;have np:=aE.size;by_cases aw:k<n
  .obtain⟨b,o,y,cs,rfl,O,a4,bS,bi,Z⟩:=(H.on (Fr.ext aE)).gZ dg aw;exact vI
  .obtain rfl:k=n:=ab;clear aE hG;go_wp2_with(fail);go_ret;have aK:=aR.2;rw[Lj (aC f.o)] at aK;exact⟨I,k,aA,rfl,aK.cap.1,aK.sl (λb aw O=>⟨O,aw⟩) (λb aw O=>⟨O,aw⟩),aR.1⟩
theorem qq(p:bJ)(w:World)(A:LP)(n c:Nat)(h:(ds p).rep w (au w) [.bool p.param,.int .i64 p.index,.slice A n c]) :
  Calls prog 75 #[.agg #[.bool p.param,.int .i64 p.index,.slice A n c]] w λe ac=>∃I a5 aA,e=.returned (.agg #[.bool p.param,.int .i64 p.index,.slice I a5 aA])/\(ds p).rep ac (fresh w ac) [.bool p.param,.int .i64 p.index,.slice I a5 aA]/\Ext w ac:=by
 obtain⟨A2,n2,c2,e,hc,hs⟩:=eu.1 h;simp only[List.cons.injEq,and_true,true_and] at e;injection e with cF cN bH;subst cF cN bH;have H:=ad hs;have hj:p.at_.toList.length<=100000:=by cases p.at_<;>simp
 clear h hs hc;generalize j:p.param=pb;generalize k:p.index=pi;have cb:=ah j k;clear j k;go_enter func75,ntmps75;go_upto_region 1 with(fail);generalize be:World.alloc _ _=W;have m:=im be;have ci:=fU be;have i:=fL be;have aH:=bG m ci i (H.on (Fr.ext m));have cE:=i.lt;obtain⟨a0,ap,aj⟩:=ci.two;clear be m ci i;go_wp2_with(fail);refine(qo _ hj W _ _ _ aH.2.2.2).mono ?_;rintro e aP ⟨cx,cp,zc,rfl,bL,bB,aF⟩;have b6:=aF.size;have ca:=aH.2.1.aj aF;have f:=aH.2.2.1.aj aF;have H1:=dq (aH.1.trans aF) bL bB ca f;clear a0 ap aj;obtain⟨a0,ap,aj⟩:=ca.two;clear ca f aF bL bB;go_upto_region 2 with(fail);generalize hX:World.setCell _ _ _=X;have J:=dj hX;have aE:Ext w X:=Fr.low (M:=λb=>b=w.heap.size) (Fr.trans (Fr.mono H1.1 λ_ h=>h.elim) J) λb O=>ab;have aN:an X w.heap.size 58 #[.bool pb,.int .i64 pi,.slice cx cp zc]:=hX▸H1.2.2.2.1.aD 2 _;have cg:an X (w.heap.size+1) 58 #[.bool false,.int .i64 0,.slice none 0 0]:=H1.2.2.2.2.on J ab;have aR:=aL aE J cg;clear hX a0 ap aj;obtain⟨a0,ap,aj⟩:=aN.two;obtain⟨bE,bg,bh⟩:=cg.two;clear J aE aN cg;go_wp2_with(fail);generalize hX:World.setCell _ _ _=Y;obtain⟨bz,bA,bj⟩:=cm (w:=w) [.bool pb,.int .i64 pi,.slice cx cp zc] (by rfl) aR.2.2 aR.1 ab hX;have bP:=ah bA bj;clear hX bA bj a0 ap aj bE bg bh;obtain⟨bE,bg,bh⟩:=bz.two;refine LK (v:=.agg #[.bool pb,.int .i64 pi,.slice cx cp zc]) (by simp[results,Tryz.results75,go_sem,bE]) rfl ?_;have R:w.heap.size+1<aP.heap.size:=ab;refine⟨cx,cp,zc,rfl,?_,bP.1⟩;rw[<-cb.1,<-cb.2]
 refine eu.2 ⟨cx,cp,zc,rfl,H1.2.1,(H1.2.2.1.ai λb O=>(bP.2.block b (pF O.2 aR.2.1.size) (aC O.1)).trans (aR.2.1.block b O.2 (aC O.1))).mono λb O=>⟨by have:=O.1;omega,by have:=O.2;have:=aR.2.1.size;have:=bP.2.size;omega⟩⟩
structure rA(w:World)(s:ag)(t:Int)(f:al)(O bl hn b5 cG n fc:Nat)(IA:LP)(i ic:Nat)(S:LP)(l lc:Nat):Prop where
 fault:s.fault=0
 t0:0<=t
 tn:t<hn
 lb:O<w.heap.size
 lf:b5<w.heap.size
 cell:w.cell? ⟨O,bl+t.toNat,none⟩=some (.slice (some ⟨b5,cG,none⟩) (n+1) fc)
 c0:w.cell? ⟨b5,cG+n*4,none⟩=some (.int .i64 f.proc)
 c1:w.cell? ⟨b5,cG+n*4+1,none⟩=some (.int .i64 f.pc)
 c2:w.cell? ⟨b5,cG+n*4+2,none⟩=some (.slice IA i ic)
 c3:w.cell? ⟨b5,cG+n*4+3,none⟩=some (.slice S l lc)
 Kq:i<=ic
 lcs:l<=lc
 ints:Sl w (au w) IA i (f.ints.map D.i)
 aw:Sl w (au w) S l (f.aw.map D.i)
 th:∃fs,s.threads[t.toNat]?=some (fs++[f])/\fs.length=n
 n1:n+1<=fc
 nb:n<=1000000
theorem rA.on{w ac:World}{s:ag}{t:Int}{f:al}{O bl hn b5 cG n fc:Nat}{IA:LP}{i ic:Nat}{S:LP}{l lc:Nat}(h:rA w s t f O bl hn b5 cG n fc IA i ic S l lc)(he:Ext w ac):rA ac s t f O bl hn b5 cG n fc IA i ic S l lc:=
 ⟨h.fault,h.t0,h.tn,Lc h.lb he.size,Lc h.lf he.size,(he.cell h.lb λh=>h).trans h.cell,(he.cell h.lf λh=>h).trans h.c0,(he.cell h.lf λh=>h).trans h.c1,(he.cell h.lf λh=>h).trans h.c2,(he.cell h.lf λh=>h).trans h.c3,h.Kq,h.lcs,h.ints.on (Fr.ext he),h.aw.on (Fr.ext he),h.th,h.n1,h.nb⟩
theorem mE.top{w:World}{s:ag}{GA TA HA:LP}{gn tn:Nat}(h:mE w (au w) s GA gn TA tn HA hn)(ac:Small s){t:Int}{f:al}(ht:da s t=some f):
  ∃O bl b5 cG n fc IA i ic S l lc,HA=some ⟨O,bl,none⟩/\rA w s t f O bl hn b5 cG n fc IA i ic S l lc:=by
 obtain⟨h0,ae,fs,br⟩:=jN ht;have hl:=h.h.1;rw[Lf] at hl;have ai:=(List.getElem?_eq_some_iff.1 br).1;obtain⟨O,bl,dc,FA,m,fc,rfl,aO,T,hc,hm,J⟩:=h.h.ym (k:=t.toNat) ab;rw[br] at T;injection T with T;subst T;have cf:=J.1;simp at cf;obtain⟨b5,cG,a9,IA,i,ic,S,l,lc,rfl,bk,a,c0,c1,c2,c3,aD,aU,a1,cd⟩:=J.IM (k:=fs.length) ab;simp at a;subst a;subst cf;exact⟨O,bl,b5,cG,fs.length,fc,IA,i,ic,S,l,lc,rfl,h0,ae,ab,aO,bk,hc,c0,c1,c2,c3,aD,aU,a1,cd,⟨fs,br,rfl⟩,hm,by have:=(ac.f _ (Le br)).1;simp at this;omega⟩
theorem x4(c d:Value)(O bl hn hc b5 cG n fc:Nat)(t:Int)(w:World)(h0:0<=t)(aw:t<hn)(c9:O<w.heap.size)(aI:w.cell? ⟨O,bl+t.toNat,none⟩=some (.slice (some ⟨b5,cG,none⟩) (n+1) fc))(au:n<=1000000) :
  Calls prog 54 #[.agg #[c,d,.slice (some ⟨O,bl,none⟩) hn hc,.int .i64 0],.int .i64 t] w λe ac=>e=.returned (.pointer (some ⟨b5,cG+n*4,none⟩))/\Ext w ac:=by
 have q1:decide (t<0)=false:=by simp;omega
 have cp:decide (t>=hn)=false:=by simp;omega
 have cw:(((n+1:Nat):Int) == 0)=false:=by simp;omega
 exact tL
theorem sn{w:World}{s:ag}{GA TA HA:LP}{gn tn:Nat}(h:mE w (au w) s GA gn TA tn HA hn){t:Int}(ht:da s t=none):
  s.fault≠0\/t<0\/(hn:Int)<=t\/(0<=t/\t<hn/\∃O bl FA fc,HA=some ⟨O,bl,none⟩/\O<w.heap.size/\w.cell? ⟨O,bl+t.toNat,none⟩=some (.slice FA 0 fc)):=by
 by_cases h0:s.fault≠0
 .exact .inl h0
 by_cases ae:t<0
 .exact .inr (.inl ae)
 by_cases aD:(hn:Int)<=t
 .exact .inr (.inr (.inl aD))
 refine .inr (.inr (.inr ⟨ab,ab,?_⟩));obtain⟨O,bl,fs,FA,m,fc,rfl,aO,br,hc,hm,J⟩:=h.h.ym (k:=t.toNat) ab;unfold da at ht;rw[if_neg ab,br] at ht;have a5:fs=[]:=by simpa using ht
 have cf:=J.1;rw[a5] at cf;simp at cf;subst cf;exact⟨O,bl,FA,fc,rfl,aO,hc⟩
theorem yW(s:ag)(GA TA HA:LP)(gn gc tn tc hn hc:Nat)(t:Int)(w:World)(h:mE w (au w) s GA gn TA tn HA hn)(ht:da s t=none) :
  Calls prog 54 #[.agg #[.slice GA gn gc,.slice TA tn tc,.slice HA hn hc,.int .i64 s.fault],.int .i64 t] w λe ac=>e=.returned (.pointer none)/\Ext w ac:=by
 have f:=sn h ht;clear h ht;generalize ba:s.fault=z at *;clear ba;by_cases h0:z=0
 case neg=>
  have hf:(z != 0)=true:=by simpa using h0
  clear f h0;exact tL
 subst h0;rcases f with h|h|h|⟨ae,aD,O,bl,FA,fc,rfl,aO,aI⟩
 .exact absurd rfl h
 .have q1:decide (t<0)=true:=by simpa using h
  clear h;exact tL
 .have q1:decide (t<0)=false:=by simp;omega
  have cp:decide (t>=hn)=true:=by simpa using h
  clear h;exact tL
 .have q1:decide (t<0)=false:=by simp;omega
  have cp:decide (t>=hn)=false:=by simp;omega
  exact tL
theorem r3{w:World}{s:ag}{t:Int}{f:al}{b5 cG:Nat}{IA:LP}{i ic:Nat}(h:rA w s t f O bl hn b5 cG n fc IA i ic S l lc)(c d:Value)(hc:Nat):
  Calls prog 54 #[.agg #[c,d,.slice (some ⟨O,bl,none⟩) hn hc,.int .i64 s.fault],.int .i64 t] w λe ac=>e=.returned (.pointer (some ⟨b5,cG+n*4,none⟩))/\Ext w ac:=by
 rw[h.fault];exact x4 c d O bl hn hc b5 cG n fc t w h.t0 h.tn h.lb h.cell h.nb
namespace BC
theorem pE(h:p:=by
 obtain⟨a0,ap,aj⟩:=aN.two;obtain⟨bE,bg,bh⟩:=cg.two;replace aI:=(aE.cell (j:=bl+t.toNat) c9 λh=>h).trans aI
 replace c0:=(aE.cell (j:=cG+n*4) bk λh=>h).trans c0
 replace c1:=(aE.cell (j:=cG+n*4+1) bk λh=>h).trans c1
 replace c2:=(aE.cell (j:=cG+n*4+2) bk λh=>h).trans c2
 replace c3:=(aE.cell (j:=cG+n*4+3) bk λh=>h).trans c3
 obtain⟨a8,aZ⟩:=aM aE cg;clear be aE aN cg c9 bk;go_wp2_with(fail);generalize hX:World.setCell _ _ _=X;obtain⟨bw,bq,bO⟩:=cm (w:=w) [.int .i64 f.proc,.int .i64 f.pc,.slice IA i ic,.slice S l lc] (by rfl) aZ.o a8.o ab hX;have aR:=ad bq;clear hX bq bO a0 ap aj bE bg bh c0 c1 c2 c3 aI;obtain⟨bE,bg,bh⟩:=bw.two;refine LK (v:=.tuple #[.agg #[.int .i64 f.proc,.int .i64 f.pc,.slice IA i ic,.slice S l lc],.bool true]) (by simp[results,Tryz.results55,go_sem,bE]) rfl ?_;exact⟨rfl,aR.o⟩
 ):p:=h
end BC
open BC in
theorem nO{w:World}{s:ag}{t:Int}{f:al}{b5 cG:Nat}{IA:LP}{i ic:Nat}(h:rA w s t f O bl hn b5 cG n fc IA i ic S l lc)(c d:Value)(hc:Nat):
  Calls prog 55 #[.agg #[c,d,.slice (some ⟨O,bl,none⟩) hn hc,.int .i64 s.fault],.int .i64 t] w λe ac=>e=.returned (.tuple #[.agg #[.int .i64 f.proc,.int .i64 f.pc,.slice IA i ic,.slice S l lc],.bool true])/\Ext w ac:=by
 obtain⟨ae,h0,aw,c9,bk,aI,c0,c1,c2,c3,_,_,_,_,_,_,au⟩:=h;rw[ae];have q1:decide (t<0)=false:=by simp;omega
 have cp:decide (t>=hn)=false:=by simp;omega
 have cw:(((n+1:Nat):Int) == 0)=false:=by simp;omega
 clear ae;go_enter func55,ntmps55;exact pD
namespace BD
theorem pE(h:p:=by
 obtain⟨a0,ap,aj⟩:=aN.two;obtain⟨bE,bg,bh⟩:=cg.two;replace aI:=(aE.cell (j:=bl+t.toNat) aO λh=>h).trans aI
 have a8:=ah aE cg;clear be aE aN cg;by_cases hm:m=0
 .subst hm;clear c;exact Ba
 .have cw:((m:Int) == 0)=false:=by simp;omega
  have cO:(z != 0)=true:=by simpa using c.resolve_left hm
  clear c hm;exact Ba
 ):p:=h
end BD
open BD in
theorem za(s:ag)(GA TA HA:LP)(gn gc tn tc hn hc:Nat)(t:Int)(w:World)(h:mE w (au w) s GA gn TA tn HA hn)(ht:da s t=none) :
  Calls prog 55 #[.agg #[.slice GA gn gc,.slice TA tn tc,.slice HA hn hc,.int .i64 s.fault],.int .i64 t] w λe ac=>e=.returned (.tuple #[.agg #[.int .i64 0,.int .i64 0,.slice none 0 0,.slice none 0 0],.bool false])/\Ext w ac:=by
 have f:t<0\/(hn:Int)<=t\/(0<=t/\t<hn/\∃O bl FA m fc,HA=some ⟨O,bl,none⟩/\O<w.heap.size/\w.cell? ⟨O,bl+t.toNat,none⟩=some (.slice FA m fc)/\(m=0\/s.fault≠0)):=by
  by_cases ae:t<0
  .exact .inl ae
  by_cases aD:(hn:Int)<=t
  .exact .inr (.inl aD)
  refine .inr (.inr ⟨ab,ab,?_⟩);obtain⟨O,bl,fs,FA,m,fc,rfl,aO,br,hc,hm,J⟩:=h.h.ym (k:=t.toNat) ab;refine⟨O,bl,FA,m,fc,rfl,aO,hc,?_⟩;rcases sn h ht with aU|aU|aU|⟨_,_,aX,b9,cV,cd,he,_,a9⟩
  .exact .inr aU
  .omega
  .omega
  .injection he with he;injection he with ar bU;subst ar bU;rw[hc] at a9;injection a9 with a9;injection a9 with _ a9 _;exact .inl a9
 clear h ht;generalize ba:s.fault=z at *;clear ba;rcases f with h|h|⟨ae,aD,O,bl,FA,m,fc,rfl,aO,aI,c⟩
 .have q1:decide (t<0)=true:=by simpa using h
  exact Gg
 .have q1:decide (t<0)=false:=by simp;omega
  have cp:decide (t>=hn)=true:=by simpa using h
  exact Gg
 .have q1:decide (t<0)=false:=by simp;omega
  have cp:decide (t>=hn)=false:=by simp;omega
  go_enter func55,ntmps55;exact pD
structure UV where
 GA:Option Addr
 gn:Nat
 gc:Nat
 MA:Option Addr
 mn:Nat
 mc:Nat
 PA:Option Addr
 pn:Nat
 pc:Nat
structure SV where
 GA:Option Addr
 gn:Nat
 gc:Nat
 TA:Option Addr
 tn:Nat
 tc:Nat
 HA:Option Addr
 hn:Nat
 hc:Nat
abbrev UV.val(p:UV)(u:av):Array Value:=#[.slice p.GA p.gn p.gc,.slice p.MA p.mn p.mc,.slice p.PA p.pn p.pc,.int .i64 u.main]
abbrev SV.val(q:SV)(s:ag):Array Value:=#[.slice q.GA q.gn q.gc,.slice q.TA q.tn q.tc,.slice q.HA q.hn q.hc,.int .i64 s.fault]
structure UV.Ok(p:UV)(w:World)(u:av):Prop where
 at_:hj w (au w) u p.GA p.gn p.MA p.mn p.PA p.pn
 gc:p.gn<=p.gc
 mc:p.mn<=p.mc
 pc:p.pn<=p.pc
structure SV.Ok(q:SV)(w:World)(s:ag):Prop where
 at_:mE w (au w) s q.GA q.gn q.TA q.tn q.HA q.hn
 gc:q.gn<=q.gc
 tc:q.tn<=q.tc
 hc:q.hn<=q.hc
theorem UV.Ok.on{p:UV}{w ac:World}{u:av}(h:p.Ok w u)(he:Ext w ac):p.Ok ac u:=⟨h.at_.on he,h.gc,h.mc,h.pc⟩
theorem SV.Ok.on{q:SV}{w ac:World}{s:ag}(h:q.Ok w s)(he:Ext w ac):q.Ok ac s:=⟨h.at_.on he,h.gc,h.tc,h.hc⟩
theorem mb{u:av}(hU:cP u):elems u.ae<=5000:=by
 have ae:=eS u.ae;have aD:=dJ hU.EH;omega
theorem aS.small{u:av}{N:Nat}{s:ag}(hU:cP u)(h:aS u N s)(hD:N<=100000):Small s:=by
 refine⟨by have:=h.dw;have:=hU.qv;omega,by have:=h.table;have:=dJ hU.EH;omega,by have:=h.zi;omega,λt ht=>⟨by have:=(h.fE t ht).1;omega,λf J=>?_⟩⟩;obtain⟨p,hp,_,ae,aD⟩:=((h.fE t ht).2 f J).ex;have:=hU.procs p (Le hp);have:=this.ints;have:=(hU.procs p (Le hp)).aw;omega
section
variable {u:av} {N:Nat} {s:ag} {f:al} {Q:di} {pl:bJ} {w:World} {GA MA IA QA:LP} {gn gc mn mc i ic qm qc:Nat}
theorem Dy(hU:cP u)(hS:aS u N s)(hF:b0 u f)(hp:u.procs[f.proc.toNat]?=some Q)(hx:cI (bj u) Q.locals Q.aw pl)(j:pl.param=false)
  (hm:Sl w (au w) MA mn (u.ae.map ek)) (aK:Sl w (au w) GA gn (s.globals.map D.i)) (ak:Sl w (au w) IA i (f.ints.map D.i)) (br:(ds pl).rep w (au w) [.bool pl.param,.int .i64 pl.index,.slice QA qm qc]) :
  (qm=0/\cO u s f pl=(0,0))\/∃(e:VE) (k:Nat) (m:bF) (b o:Nat) (c0 c1 c2 c3:Value),QA=some ⟨b,o,none⟩/\qm=1/\pl.index=(k:Nat)/\zs w MA mn u.ae GA IA gn i s.globals f.ints e k m b o c0 c1 c2 c3/\n7 s.globals f.ints e/\cO u s f pl=idx m.size (ev s.globals f.ints e):=by
 rcases hx with⟨ae,_⟩|⟨_,m,aD,aU,a1,cd⟩
 .rw[j] at ae;cases ae
 obtain⟨A2,n2,c2,e,_,hs⟩:=eu.1 br;simp only[List.cons.injEq,and_true,true_and] at e;injection e with cF cN bH;subst cF cN bH;have aR:u.ae[pl.index.toNat]?=some m:=aU;by_cases ba:0<m.size
 .obtain⟨x,hx,rb⟩:=a1 ba;right;rw[hx] at hs;simp only[Option.toList_some,Lh,Ly] at hs;obtain rfl:qm=1:=hs.1.symm;obtain⟨b,o,bs,Z,bu,E,rfl,O,aQ,c0,c1,c2,c3⟩:=hs.DP (dg x);obtain⟨bl,a,_⟩:=xU hS hF hp rb;have yM:=aK.1;have ax:=ak.1;have eM:=hm.1;rw[Lf] at yM ax eM;have ai:=(List.getElem?_eq_some_iff.1 aR).1;refine⟨x,pl.index.toNat,m,b,o,bs,Z,bu,E,rfl,rfl,ab,⟨⟨aK.ints,ak.ints,by rw[<-yM,<-ax];exact bl,kG x _ aQ⟩,hm.rr,ab,aR,O,c0,c1,c2,c3⟩,a,?_⟩;unfold cO;rw[hx,aR];rfl
 .left;rw[cd ba] at hs;refine⟨hs.1.symm,?_⟩;unfold cO;rw[cd ba]
theorem Hz(hU:cP u)(hS:aS u N s)(hF:b0 u f)(hp:u.procs[f.proc.toNat]?=some Q)(hx:cI (bj u) Q.locals Q.aw pl)(j:pl.param=false)
  (hm:Sl w (au w) MA mn (u.ae.map ek)) (aK:Sl w (au w) GA gn (s.globals.map D.i)) (ak:Sl w (au w) IA i (f.ints.map D.i)) (br:(ds pl).rep w (au w) [.bool pl.param,.int .i64 pl.index,.slice QA qm qc]) :
  Calls prog 77 #[.agg #[.bool false,.int .i64 pl.index,.slice QA qm qc],.slice MA mn mc,.slice GA gn gc,.slice IA i ic] w (fS w (cO u s f pl)):=by
 rcases Dy hU hS hF hp hx j hm aK ak br with⟨rfl,h⟩|⟨e,k,m,b,o,c0,c1,c2,c3,rfl,rfl,ai,hI,_,h⟩
 .rw[h];exact vr _ _ _ _ _ _ _ _
 .rw[h,ai];exact yp _ _ _ _ _ _ _ _ _ _ _ _ _ _ _ _ _ _ _ _ _ _ _ hI
theorem HI(hU:cP u)(hS:aS u N s)(hF:b0 u f)(hp:u.procs[f.proc.toNat]?=some Q)(hx:cI (bj u) Q.locals Q.aw pl)(j:pl.param=false)
  (hm:Sl w (au w) MA mn (u.ae.map ek)) (aK:Sl w (au w) GA gn (s.globals.map D.i)) (ak:Sl w (au w) IA i (f.ints.map D.i)) (br:(ds pl).rep w (au w) [.bool pl.param,.int .i64 pl.index,.slice QA qm qc]) :
  Calls prog 82 #[.agg #[.bool false,.int .i64 pl.index,.slice QA qm qc],.slice MA mn mc,.slice GA gn gc,.slice IA i ic] w (fS w (cO u s f pl)):=by
 rcases Dy hU hS hF hp hx j hm aK ak br with⟨rfl,h⟩|⟨e,k,m,b,o,c0,c1,c2,c3,rfl,rfl,ai,hI,a,h⟩
 .rw[h];exact ru _ _ _ _ _ _ _ _
 .rw[h,ai];exact tj _ _ _ _ _ _ _ _ _ _ _ _ _ _ _ _ _ _ _ _ _ _ _ hI a
end
end Go.Proofs.YtflecliffjbleaaGreat

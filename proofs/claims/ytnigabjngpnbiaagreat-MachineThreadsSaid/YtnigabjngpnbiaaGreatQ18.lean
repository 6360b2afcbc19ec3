/- Part 18 of the proof. No condition of its own. -/
import Derived.Test.YtnigabjngpnbiaaGreatQ17
namespace Go.Proofs.YtnigabjngpnbiaaGreat
open Go.RowKit Go.Proofs.Tryz
set_option maxRecDepth 1000000
set_option maxHeartbeats 25600000
set_option linter.unusedVariables false
variable{a:Act}{co:List Value}{fs:List ai}{O bb c fc hn l lc n:Nat}{o:Oper}{A FA bo:Kj}{rest:PT}{p:Prop}{r:World}
theorem sf(l:List Int):l.flatMap dr=l.map cX:=si l
theorem kY(A:Kj)(n c:Nat)(l:List Int)(w:World)(h:cB (EF dr) 1 w w.heap.size A n l)(hn:n<=100000) :
  Calls prog 19 #[.slice A n c] w λr J=>∃a1 aW,r=.returned (.slice a1 n aW)/\J.ownsRow w.heap.size 3 1 (.slice a1 n aW) n (l.map cX)/\Below w.heap.size w J:=by
 have heq:=λW=>qw (P:=prog) W 22 3 A n c 0 0 Tryz.underlying22;rcases A with _|a
 .have ai:n=0:=by
   rcases Nat.eq_zero_or_pos n with h0|h0
   .exact h0
   .obtain⟨b,o,h,_⟩:=h.2 h0;cases h
  subst ai;have hT:l=[]:=List.eq_nil_of_length_eq_zero h.1;subst hT;go_enter func19,ntmps19;exact yu
 .have ay:=Src.kL h (iP l) (lP l) ad;rw[sf] at ay;go_enter func19,ntmps19;go_wp2_with(at_builtin;refine fu _ eK (by rfl) (.tmp 5) (.tmp 6) (by rfl) (by rfl) _ _ _ _ (by rfl) ay ad ad (λh=>nomatch h) ?_;intro bz c1 aL aA bY);go_ret;exact⟨bz,c1,rfl,aA,bY⟩
theorem Sl.kY{A:Kj}{n c:Nat}{l:List Int}{w:World}(h:Sl w (ao w) A n (l.map D.i))(hn:n<=100000) :
  Calls prog 19 #[.slice A n c] w λr J=>∃a1 aW,r=.returned (.slice a1 n aW)/\Own J 3 1 a1 n aW (l.map cX) (bd a1 n aW)/\(∀b∈bd a1 n aW,w.heap.size<=b/\b<J.heap.size)/\Ext w J:=
 (Go.Proofs.YtnigabjngpnbiaaGreat.kY A n c l w h.ints hn).mono λr J ⟨a1,aW,aZ,bb,O⟩=>⟨a1,aW,aZ,⟨gC bb (J4 _),rfl⟩,λb O=>bb.lt b (by simpa using O),Fr.of O⟩
theorem Sl.tW{l:List cp}{w:World}(h:Sl w (ao w) A n (l.map kE))(hn:n<=5000):
  Calls prog 63 #[.slice A n c] w λr J=>∃a1 aW,r=.returned (.slice a1 n aW)/\Own J 89 2 a1 n aW (l.flatMap bA) (bd a1 n aW)/\(∀b∈bd a1 n aW,w.heap.size<=b/\b<J.heap.size)/\Ext w J:=
 (me A n c l w h.holds hn).mono λr J ⟨a1,aW,aZ,bb,O⟩=>⟨a1,aW,aZ,⟨gC bb (J4 _),rfl⟩,λb O=>bb.lt b (by simpa using O),Fr.of O⟩
section
variable {P:Program} {e t:TypeId} {z:Value} {size bytes:Nat}
theorem ew(A:Kj)(n c:Nat):(bd A n c).Nodup:=by unfold bd;cases (Value.slice A n c).ownBlock<;>simp
namespace Br
theorem Ae(h:p:=by
 refine h a1 aW J ⟨bE,rfl⟩ (Kf.grown aS λg aS=>.inl (by rw[h0.eq];simp[aS])) λb O=>?_;have aN:(Value.slice a1 (n+1) aW).ownBlock=some b:=by simpa using O
 rcases aI with aI|aI
 .rw[aI] at aN;exact .inl (by rw[h0.eq];simp[aN])
 .have:=(bE.lt b aN).2;rw[aI] at aN;injection aN with aN;right;simp at aN;omega
 ):p:=h
end Br
open Br in
theorem wN{K:Act->World->Prop}{Q:Exit->Act->World->Prop}(bu:cA P t e z size bytes)(s x:Operand)
  (bb:o.op=.call {callee:=.builtin .append,args:=#[s,x],argTypes:=#[t,t]})
  {A:Kj} {n c:Nat} {xs:List Value} {F:List Nat} (h0:Own r e size A n c xs F) {cs:Array Value}
  (hs:a.eval s=.slice A n c) (hx:a.eval x=.slice (some ⟨r.heap.size,0,none⟩) 1 1) (aB:cs.size=size) (ac:∀u∈cs.toList,u.oneCell'=true)
  (y:(n+1)*bytes<=140737488355328) (G:n+1<=140737488355328)
  (h:∀a1 aW J,Own J e size a1 (n+1) aW (xs++cs.toList) (bd a1 (n+1) aW)->Fr (λb=>b∈F) r J->(∀b∈bd a1 (n+1) aW,b∈F\/(r.heap.size<=b/\b<J.heap.size))->K (a.put o.dst (.slice a1 (n+1) aW)) J):o.wp P a (r.alloc (.cells cs e)) K Q:=by
 refine ka _ bu s x bb 0 _ n xs hs (h0.row.alloc _) _ 1 1 cs.toList hx (Src.block (heap_alloc_new r _) 1 ad ac) y G (J4 _) (λh=>nomatch h) λH J bE cB aI=>?_;exact Ad
theorem m2{ops:Array Oper}{rest:List Oper}{Q:Exit->Act->World->Prop}(bu:cA P t e z size bytes)(i:o.guard=none)(s x:Operand)
  (bb:o.op=.call {callee:=.builtin .append,args:=#[s,x],argTypes:=#[t,t]})
  {A:Kj} {n c:Nat} {xs:List Value} {F:List Nat} (h0:Own r e size A n c xs F) {cs:Array Value}
  (hs:a.eval s=.slice A n c) (hx:a.eval x=.slice (some ⟨r.heap.size,0,none⟩) 1 1) (aB:cs.size=size) (ac:∀u∈cs.toList,u.oneCell'=true)
  (y:(n+1)*bytes<=140737488355328) (G:n+1<=140737488355328)
  (h:∀a1 aW J,Own J e size a1 (n+1) aW (xs++cs.toList) (bd a1 (n+1) aW)->Fr (λb=>b∈F) r J->(∀b∈bd a1 (n+1) aW,b∈F\/(r.heap.size<=b/\b<J.heap.size))->wpList P ops Q rest (a.put o.dst (.slice a1 (n+1) aW)) J):wpList P ops Q (o::rest) a (r.alloc (.cells cs e)):=
 wpList_plain i λ_ hK=>wN bu s x bb h0 hs hx aB ac y G λa1 aW J bX g2 cv=>hK _ _ (h a1 aW J bX g2 cv)
end
theorem wm{ay aw f I:List Nat}{a b:Nat}(h:(ay++aw).Nodup)(aq:∀x∈ay++aw,x<a)(hI:I.Nodup)(d:∀x∈I,a<=x/\x<b)(hK:f.Nodup)(g:∀x∈f,x∈ay\/b<=x)(ai:a<=b):(f++(aw++I)).Nodup:=by
 have h0:=List.nodup_append.1 h;refine List.nodup_append.2 ⟨hK,List.nodup_append.2 ⟨h0.2.1,hI,λx hx y aa c=>?_⟩,λx hx y aa c=>?_⟩
 .have:=aq x (by simp[hx]);have:=d y aa;omega
 .subst c;rcases JR.1 aa with aa|aa
  .rcases g x hx with ac|ac
   .exact h0.2.2 x ac x aa rfl
   .have:=aq x (by simp[aa]);omega
  .have ap:=d x aa;rcases g x hx with ac|ac
   .have:=aq x (by simp[ac]);omega
   .omega
theorem GK{X Y:List Nat}{m:Nat}(hX:X.Nodup)(cm:Y.Nodup)(ac:∀x∈X,x<m)(ap:∀y∈Y,m<=y):(X++Y).Nodup:=
 List.nodup_append.2 ⟨hX,cm,λx hx y aa c=>by have:=ac x hx;have:=ap y aa;omega⟩
theorem uB{F1 F2 bj bI:List Nat}:(F1++(F2++(bj++bI))).Nodup↔(bj++(F1++(F2++bI))).Nodup:=by
 have h:(F1++(F2++(bj++bI))).Perm (bj++(F1++(F2++bI))):=by
  rw[<-List.append_assoc F1 F2,<-List.append_assoc (F1++F2) bj,<-List.append_assoc F1 F2 bI,<-List.append_assoc bj];exact List.perm_append_comm.append_right bI
 exact h.nodup_iff
structure Small(s:ah):Prop where
 g:s.globals.length<=1000
 t:s.table.length<=5000
 h:s.threads.length<=1000
 f:∀t∈s.threads,t.length<=1000000/\∀f∈t,f.ints.length<=100000/\f.aq.length<=100000
structure E4(B:Nat)(w:World)(s:ah)(GA:Kj)(gn gc:Nat)(TA:Kj)(tn tc N k:Nat)(HA:Kj)(hc:Nat)(xs:List Value)(bj bI:List Nat):Prop where
 st:pz w {s with threads:=s.threads.take k} GA gn gc TA tn tc HA k hc xs (bd GA gn gc) (bd TA tn tc) bj bI
 o:au w N 31 #[.slice GA gn gc,.slice TA tn tc,.slice HA k hc,.int .i64 s.fault]
 ne:N∉bd GA gn gc++(bd TA tn tc++(bj++bI))
 lo:∀b∈bd GA gn gc++(bd TA tn tc++(bj++bI)),B<=b/\b<w.heap.size
 go:B<=N
section
variable {B:Nat} {w J:World} {s:ah} {GA TA HA:Kj} {gn gc tn tc N k hc:Nat} {xs:List Value} {bj bI:List Nat}
theorem E4.aj(h:E4 B w s GA gn gc TA tn tc N k HA hc xs bj bI)(he:Ext w J):E4 B J s GA gn gc TA tn tc N k HA hc xs bj bI:=
 ⟨h.st.al λb O=>he.block b (h.lo b O).2 λh=>h,h.o.aj he,h.ne,λb O=>⟨(h.lo b O).1,JJ (h.lo b O).2 he.size⟩,h.go⟩
theorem E4.step(h:E4 B w s GA gn gc TA tn tc N k HA hc xs bj bI)(bx:s.threads[k]?=some fs){ay aw:List Nat}{aL aV:World}(he:Ext w aL)
  (bb:Own aL 59 4 FA n c co ay) (aA:jC nK aL fs co aw) (hn:n=fs.length) (nd:(ay++aw).Nodup) (hK:∀b∈ay++aw,w.heap.size<=b/\b<aL.heap.size)
  {bG:Kj} {aO:Nat} (aZ:Own aV 56 1 bG (k+1) aO (xs++[.slice FA n c]) (bd bG (k+1) aO)) (bO:Fr (λb=>b∈bj) aL aV) (r:∀b∈bd bG (k+1) aO,b∈bj\/(aL.heap.size<=b/\b<aV.heap.size)) {X:World}
  (hX:aV.setCell ⟨N,2,none⟩ (.slice bG (k+1) aO)=X):E4 B X s GA gn gc TA tn tc N (k+1) bG aO (xs++[.slice FA n c]) (bd bG (k+1) aO) (bI++(ay++aw)):=by
 have hw:=he.size;have ck:=bO.size;have dp:N<w.heap.size:=h.o.lt;have m:=h.st.nd;have l:=uB.1 m;have n2:=List.nodup_append.1 l;have j:∀b∈bd GA gn gc++(bd TA tn tc++bI),b∉bj:=λb O aD=>n2.2.2 b aD b O rfl;have aq:∀b∈bd GA gn gc++(bd TA tn tc++bI),b<w.heap.size/\b≠N:=λb O=>by
  have aN:b∈bd GA gn gc++(bd TA tn tc++(bj++bI)):=by
   exact x6
  exact⟨(h.lo b aN).2,λhe=>h.ne (he▸aN)⟩
 have bZ:∀b∈bj,b<w.heap.size/\b≠N:=λb O=>by
  have aN:b∈bd GA gn gc++(bd TA tn tc++(bj++bI)):=by simp[O]
  exact⟨(h.lo b aN).2,λhe=>h.ne (he▸aN)⟩
 have i:∀b,b≠N->X.heap[b]?=aV.heap[b]?:=λb O=>by rw[<-hX];exact aJ O
 have bp:X.heap.size=aV.heap.size:=by rw[<-hX];simp[World.setCell]
 have d:∀b∈bd GA gn gc++(bd TA tn tc++bI),X.heap[b]?=w.heap[b]?:=λb O=>
  (i b (aq b O).2).trans ((bO.block b (by have:=(aq b O).1;omega) (j b O)).trans (he.block b (aq b O).1 λh=>h))
 have f:∀b∈ay++aw,X.heap[b]?=aL.heap[b]?:=λb O=>
  (i b (aC (hK b O))).trans (bO.block b (hK b O).2 λaD=>by have:=hK b O;have:=(bZ b aD).1;omega)
 have g:∀b∈bd bG (k+1) aO,b≠N:=λb O=>by
  rcases r b O with ac|ac
  .exact(bZ b ac).2
  .omega
 have a5:m5 X fs [.slice FA n c] (ay++aw):=⟨FA,n,c,co,ay,aw,rfl,rfl,hn,bb.al λb O=>f b (by simp[O]),aA.al nK.al λb O=>f b (by simp[O])⟩
 have cO:s.threads.take (k+1)=s.threads.take k++[fs]:=aX bx;refine⟨⟨h.st.gl,h.st.tl,?_,h.st.g.al λb O=>d b (by simp only[JR];exact .inl O),h.st.t.al λb O=>d b (by simp only[JR];exact .inr (.inl O)),aZ.al λb O=>i b (g b O),?_,?_⟩,?_,?_,λb O=>?_,h.go⟩
 .have:=h.st.hl;show k+1=(s.threads.take (k+1)).length
  rw[cO,JK,<-this];rfl
 .show jC m5 X (s.threads.take (k+1)) _ _
  rw[cO];exact(h.st.hs.al m5.al λb O=>d b (by simp[O])).snoc a5
 .refine uB.2 ?_;rw[show bd GA gn gc++(bd TA tn tc++(bI++(ay++aw)))=(bd GA gn gc++(bd TA tn tc++bI))++(ay++aw) by simp];refine wm (a:=w.heap.size) (b:=aL.heap.size) l (λx hx=>?_) nd hK (ew _ _ _) (λx hx=>(r x hx).imp id λh=>h.1) hw;rcases JR.1 hx with hx|hx
  .exact(bZ x hx).1
  .exact(aq x hx).1
 .have:=(h.o.aj he).on bO λaD=>(bZ _ aD).2 rfl;rw[<-hX];exact this.bH 2 _
 .intro aS;simp only[JR] at aS;have ac:=h.ne;simp only[JR] at ac;rcases aS with aS|aS|aS|aS|aS|aS
  .exact ac (.inl aS)
  .exact ac (.inr (.inl aS))
  .exact g _ aS rfl
  .exact ac (.inr (.inr (.inr aS)))
  .have:=hK N (by simp[aS]);omega
  .have:=hK N (by simp[aS]);omega
 .rw[bp];simp only[JR] at O;have hl:=h.lo;rcases O with O|O|O|O|O|O
  .have:=hl b (by simp[O]);omega
  .have:=hl b (by simp[O]);omega
  .rcases r b O with ac|ac
   .have:=hl b (by simp[ac]);omega
   .have:=h.go;omega
  .have:=hl b (by simp[O]);omega
  .have:=hK b (by simp[O]);have:=h.go;omega
  .have:=hK b (by simp[O]);have:=h.go;omega
end
theorem vS:cA prog 54 59 (.agg #[.int .i64 0,.int .i64 0,.slice none 0 0,.slice none 0 0]) 4 64:=cA.mk' Tryz.underlying54 (by kernel_rfl) rfl ad
theorem q9:cA prog 29 56 (.agg #[.slice none 0 0]) 1 24:=cA.mk' Tryz.underlying29 (by kernel_rfl) rfl ad
theorem Own.aj{w J:World}{e:TypeId}{z:Nat}{xs:List Value}{F:List Nat}(h:Own w e z A n c xs F)(he:Ext w J):Own J e z A n c xs F:=h.al λb O=>he.block b (h.lt b O) λh=>h
abbrev HV(W:World)(s:ah)(gn tn:Nat)(N:Nat)(aN:Kj)(a3:Nat)(S:Kj)(aX:Nat)(V:World):Prop:=Ext W V/\au V N 31 #[.slice none 0 0,.slice none 0 0,.slice none 0 0,.int .i64 0]/\W.heap.size<=N/\Own V 3 1 aN gn a3 (s.globals.map cX) (bd aN gn a3)/\Own V 89 2 S tn aX (s.table.flatMap bA) (bd S tn aX)/\(∀b∈bd aN gn a3,W.heap.size<=b/\b≠N)/\(∀b∈bd S tn aX,W.heap.size<=b/\b≠N/\b∉bd aN gn a3)
structure Gd(aV wr:World)(fs:List ai)(j:Nat)(FA:Kj)(fc:Nat)(co:List Value)(ay aw:List Nat):Prop where
 ext:Ext aV wr
 o:Own wr 59 4 FA j fc co ay
 f:jC nK wr (fs.take j) co aw
 nd:(ay++aw).Nodup
 lo:∀b∈ay++aw,aV.heap.size<=b/\b<wr.heap.size
theorem Gd.aj{aV wr J:World}{fs:List ai}{j:Nat}{FA:Kj}{fc:Nat}{co:List Value}{ay aw:List Nat}(h:Gd aV wr fs j FA fc co ay aw)(he:Ext wr J):Gd aV J fs j FA fc co ay aw:=
 ⟨h.ext.trans he,h.o.aj he,h.f.al nK.al λb O=>he.block b (h.lo b (by simp[O])).2 λh=>h,h.nd,λb O=>⟨(h.lo b O).1,JJ (h.lo b O).2 he.size⟩⟩
theorem Gd.step{aV wr:World}{j:Nat}{ay aw:List Nat}(h:Gd aV wr fs j FA fc co ay aw){f:ai}(bx:fs[j]?=some f){a b c:World}{IA:Kj}{i ic:Nat}
  (L:Ext wr a) (hI:Own a 3 1 IA i ic (f.ints.map cX) (bd IA i ic)) (d:∀x∈bd IA i ic,wr.heap.size<=x/\x<a.heap.size) (I:i=f.ints.length)
  (H:Ext a b) (bP:Own b 3 1 bo l lc (f.aq.map cX) (bd bo l lc)) (bf:∀x∈bd bo l lc,a.heap.size<=x/\x<b.heap.size) (hl:l=f.aq.length)
  {cp:Kj} {b7:Nat} (bb:Own c 59 4 cp (j+1) b7 (co++[.int .i64 f.proc,.int .i64 f.pc,.slice IA i ic,.slice bo l lc]) (bd cp (j+1) b7)) (aA:Fr (λx=>x∈ay) b c) (r:∀x∈bd cp (j+1) b7,x∈ay\/(b.heap.size<=x/\x<c.heap.size)) :
  Gd aV c fs (j+1) cp b7 (co++[.int .i64 f.proc,.int .i64 f.pc,.slice IA i ic,.slice bo l lc]) (bd cp (j+1) b7) (aw++(bd IA i ic++bd bo l lc)):=by
 have am:=h.ext.size;have s1:=L.size;have s2:=H.size;have bs:=aA.size;have O:=(h.aj L).aj H;have bc:∀x∈ay,x<wr.heap.size:=λx hx=>(h.lo x (by simp[hx])).2;have aH:∀x∈aw,x∉ay:=λx hx ac=>(List.nodup_append.1 h.nd).2.2 x ac x hx rfl;have bO:nK c f [.int .i64 f.proc,.int .i64 f.pc,.slice IA i ic,.slice bo l lc] (bd IA i ic++bd bo l lc):=
  ⟨IA,i,ic,bo,l,lc,_,_,rfl,rfl,I,hl,(hI.aj H).al λx hx=>aA.block x (aC (d x hx)) λac=>by have:=d x hx;have:=bc x ac;omega,bP.al λx hx=>aA.block x (bf x hx).2 λac=>by have:=bf x hx;have:=bc x ac;omega⟩
 refine⟨Fr.low (M:=λx=>x∈ay) (Fr.trans (Fr.mono O.ext λ_ h=>h.elim) aA) λx hx=>(h.lo x (by simp[hx])).1,bb,?_,?_,λx hx=>?_⟩
 .rw[aX bx];exact(O.f.al nK.al λx hx=>aA.block x (by have:=(h.lo x (by simp[hx])).2;omega) (aH x hx)).snoc bO
 .refine wm (a:=wr.heap.size) (b:=b.heap.size) h.nd (λx hx=>(h.lo x hx).2) (GK (m:=a.heap.size) (ew _ _ _) (ew _ _ _) (λx hx=>(d x hx).2) λx hx=>(bf x hx).1) (λx hx=>?_) (ew _ _ _) (λx hx=>(r x hx).imp id λh=>h.1) ad;rcases JR.1 hx with hx|hx
  .have:=d x hx;omega
  .have:=bf x hx;omega
 .simp only[JR] at hx;rcases hx with hx|hx|hx|hx
  .rcases r x hx with ac|ac
   .have:=h.lo x (by simp[ac]);omega
   .omega
  .have:=h.lo x (by simp[hx]);omega
  .have:=d x hx;omega
  .have:=bf x hx;omega
section
variable {P:Program} {ops:Array Oper} {Q:Exit->Act->World->Prop} {R:World->World->Prop} {tails:List Nat}
theorem vn{α β γ δ ε:Type}{aa:α->β->γ->δ->ε->Act}{C:α->β->γ->δ->ε->World->Prop}{G:Prop}(h:(∀x y z u v V,C x y z u v V->cW P ops Q R tails rest (aa x y z u v) V)->G)(key:∀x y z u v V,C x y z u v V->cW P ops Q R tails rest (aa x y z u v) V):G:=h key
end
theorem GP{P:Program}{ops:Array Oper}{Q:Exit->Act->World->Prop}{R:World->World->Prop}{tails:List Nat}{W:World}(C:World->Prop)(hC:C W)(h:∀V,C V->cW P ops Q R tails rest a V):cW P ops Q R tails rest a W:=h W hC
def G7(w:World)(s:ah)(gn tn hn:Nat)(e:Ending)(J:World):Prop:=∃GA gc TA tc HA hc xs F1 F2 bj bI,e=.returned (.agg #[.slice GA gn gc,.slice TA tn tc,.slice HA hn hc,.int .i64 s.fault])/\pz J s GA gn gc TA tn tc HA hn hc xs F1 F2 bj bI/\(∀b∈F1++(F2++(bj++bI)),w.heap.size<=b/\b<J.heap.size)/\Ext w J
namespace Bs
theorem gO(h:p:=by
 refine cY ?_;generalize hX:World.setCell _ _ _=X;obtain⟨a6,bf,y⟩:=bk (w:=W) [.slice aN gn a3,.slice S tn aX,.slice none 0 0,.int .i64 s.fault] (by rfl) cZ a9 aK hX;have a1:=g.lt;have a7:=F.lt;have bb:E4 W.heap.size X s aN gn a3 S tn aX N 0 none 0 [] [] []:=by
  refine⟨⟨bN.1,bN.2.1,rfl,g.al λb O=>y.block b (a1 b O) (aH b O).2,F.al λb O=>y.block b (a7 b O) (aD b O).2.1,⟨World.ownsRow_nil _ _ _ _,rfl⟩,⟨rfl,rfl⟩,?_⟩,a6,?_,λb O=>?_,aK⟩
  .simp only[J7];exact List.nodup_append.2 ⟨ew _ _ _,ew _ _ _,λa bE b O ai=>(aD b O).2.2 (ai▸bE)⟩
  .simp only[J7,JR];rintro(O|O)
   .exact(aH _ O).2 rfl
   .exact(aD _ O).2.1 rfl
  .simp only[J7,JR] at O;have:=y.size;rcases O with O|O
   .exact⟨(aH b O).1,by have:=a1 b O;omega⟩
   .exact⟨(aD b O).1,by have:=a7 b O;omega⟩
 obtain⟨a0,al,af⟩:=(ab.2.1.aj bf).two;have aJ:=ak bb bf;clear d0 aQ aR hX a6 bf y a1 a7 bb a9 cZ g F aH aD;go_wp2_with(fail);clear a0 al af;go_loopw [21] (λcr wr=>∃(k:Nat) (bG:Kj) (aO:Nat) (xs:List Value) (bj bI:List Nat),cr=.int .i64 k/\k<=hn/\E4 W.heap.size wr s aN gn a3 S tn aX N k bG aO xs bj bI/\Ext W wr) (λcr _=>hn - (intOf cr).toNat)
 case atStart=>exact⟨0,none,0,[],[],[],rfl,ad,aJ.1,aJ.2⟩
 case round=>
  obtain⟨k,bG,aO,xs,bj,bI,rfl,aj,hC,e⟩:=hrel;obtain⟨cq,rfl⟩:∃cq,cq=wr:=⟨wr,rfl⟩
  clear aJ;have bK:=ak hC e;have bC:N<cq.heap.size:=hC.o.lt;by_cases aq:k<hn
  .obtain⟨b,o,fs,bF,m,c0,rfl,O,bx,bP,hm,bq⟩:=(ab.2.2.2.on e).h.kN aq;have G:b<cq.heap.size:=O;have bS:m=fs.length:=by have:=bq.1;simpa using this.symm
   have n:=aT.f fs (JL bx);have cb:m<=1000000:=by have:=n.1;omega
   have b6:=b9 bx bq bS n.2;clear hC e O bx bq bS n;go_upto_region 6 with(fail);generalize hV:World.alloc _ _=V;have a9:=aY hV;have b8:=aF hV;have bR:=ak a9 (b6.2.1.on (Fr.ext a9));obtain⟨d0,aQ,aR⟩:=b8.two;clear hV a9 b8 bP;go_wp2_with(fail);clear d0 aQ aR;go_loopw [6,28] (λbQ bM wr=>∃(j:Nat) (FA:Kj) (fc:Nat) (co:List Value) (ay aw:List Nat),bQ=.slice FA j fc/\bM=.int .i64 j/\j<=m/\Gd V wr fs j FA fc co ay aw) (λ_ bM _=>m - (intOf bM).toNat)
   case atStart=>exact⟨0,none,0,[],[],[],rfl,rfl,ad,Kf,⟨World.ownsRow_nil _ _ _ _,rfl⟩,⟨rfl,rfl⟩,by simp,λb O=>by simp at O⟩
   case round=>
    obtain⟨j,FA,fc,co,ay,aw,rfl,rfl,be,hI⟩:=hrel;have b2:=ae hI;by_cases cl:j<m
    .obtain⟨bT,cT,f,IA,i,ic,bo,l,lc,rfl,cy,J,c0,c1,c2,c3,bJ,aS,Z,b3⟩:=(bR.2.on (Fr.ext hI.ext)).oq cl;have bB:bT<wr.heap.size:=cy;have cC:i=f.ints.length:=by have:=Z.1;simpa using this.symm
     have aW:l=f.aq.length:=by have:=b3.1;simpa using this.symm
     have bv:=b6.2.2.2 f (JL J);have bW:i<=100000:=ad;have a8:l<=100000:=ad;have br:=av J cC aW;have u:=ak Z b3;clear hI cy J cC aW bv Z b3 bJ aS;go_upto_region 9 with(fail);generalize hU:World.alloc _ _=U;have ci:=aY hU;have cK:=aF hU;have cx:=av (b2.aj ci) (u.1.on (Fr.ext ci)) (u.2.on (Fr.ext ci));obtain⟨d0,aQ,aR⟩:=cK.two;clear hU ci cK c0 c1 c2 c3 u;refine fj (λ_=>False) [(0,3),(1,3),(2,0),(3,3),(4,0),(5,3),(6,0),(8,3),(9,0),(7,1),(10,1),(11,3),(12,2),(13,2),(14,3)] ?_
     iterate 2 refine pf ?_
     refine ph ?_;refine pf ?_;refine ph ?_;refine pf ?_;refine ph ?_;refine pf ?_;refine ph ?_;refine aP rfl (λK hK=>?_);go_simp;refine(Sl.kY (Sl.on cx.2.1 (Fr.ext (Fr.refl _ U).drew)) ad).mono ?_;rintro r aL ⟨bg,dJ,rfl,E,z,L⟩;have H1:=av E z L;refine gu hK (L) ?_;clear hK K;clear E z L;refine aP rfl (λK hK=>?_);go_simp;refine(Sl.kY (Sl.on cx.2.2 (Fr.ext (Fr.aL H1.2.2))) ad).mono ?_;rintro r aV ⟨a4,bi,rfl,I,ax,H⟩;have bO:=av I ax H;refine gu hK (H) ?_;clear hK K;clear I ax H;have bn:=((cx.1.o.aj (Fr.aL H1.2.2)).aj bO.2.2)
     refine pf ?_;refine az rfl (λK hK=>?_);go_simp;refine eC hK ?_;clear hK K;refine az rfl (λK hK=>?_);rw[if_pos (by rfl)];refine wN vS (.tmp 32) (.tmp 44) rfl bn (cs:=#[.int .i64 f.proc,.int .i64 f.pc,.slice bg i dJ,.slice a4 l bi]) rfl rfl rfl (by simp[Value.oneCell']) ad ad ?_;intro cp b7 bV bX g2 cv;refine eC hK ?_;clear hK K;refine pf ?_;refine aG ?_;have a2:=ae (cx.1.step br.1 (Fr.aL H1.2.2) H1.1 (λx hx=>H1.2.1 x hx) br.2.1 bO.2.2 bO.1 bO.2.1 br.2.2 bX g2 cv);clear bX g2 cv bn d0 aQ aR;go_wp2_with(fail);go_roundw
     case rel=>exact⟨j+1,cp,b7,_,_,_,rfl,by go_num,ad,a2.o⟩
     case measure=>exact aU
    .obtain rfl:j=m:=ad;have ap:Ext cq wr:=bR.1.trans hI.ext;have aE:=ae (bK.1.aj ap);have bd:=ae ap;obtain⟨d0,aQ,aR⟩:=aE.o.o.two;have c5:=aE.st.h;have dw:N∉bj:=λh=>aE.ne (by simp[h]);clear hI ap;go_wp2_with(at_builtin;refine m2 q9 rfl (.tmp 48) (.tmp 51) rfl c5 (cs:=#[.slice FA j fc]) rfl rfl rfl (by simp[Value.oneCell']) ad ad ?_;intro cf ck bV bX g2 cv;have bH:=aE.o.o.on g2 dw;have cO:=b9 bX g2 cv bH;clear bX g2 cv d0 aQ aR;obtain⟨e0,bl,bm⟩:=bH.two;clear bH);go_roundw
     case rel=>
      have aZ:=b2.f;rw[JQ (aC b6.2.2.1)] at aZ;have bc:=b2.lo;have dn:=bR.1.size;exact⟨k+1,cf,ck,_,_,_,by go_num,ad,bK.1.step b6.1 bd.o b2.o.o aZ b6.2.2.1 b2.nd (λb O=>⟨by have:=bc b O;omega,(bc b O).2⟩) cO.1 cO.2.1 cO.2.2.1 rfl,
       Fr.low (M:=λb=>b∈bj\/b=N) (Fr.trans (Fr.mono (bK.2.trans bd.o) λ_ h=>h.elim) (Fr.setCell (Fr.mono cO.2.1 λ_ h=>.inl h) (.inl (.inr rfl)) _)) λb O=>by
        rcases O with O|O
        .exact(bK.1.lo b (by simp[O])).1
        .rw[O];exact bK.1.go⟩
     case measure=>exact aU
  .obtain rfl:k=hn:=ad;obtain⟨d0,aQ,aR⟩:=hC.o.two;have ag:=ab.2.2.1.aj e;obtain⟨bh,an,aM⟩:=ag.two;have aA:=ab.1.trans e;have bL:=ak ag aA;clear hC e ag aA;go_wp2_with(fail);generalize cm:World.setCell _ _ _=Y;obtain⟨bA,ce,bu⟩:=bk (w:=w) [.slice aN gn a3,.slice S tn aX,.slice bG k aO,.int .i64 s.fault] (by rfl) bL.1 bL.2 ad cm;have bw:=ak ce bu;clear cm ce bu d0 aQ aR bh an aM;obtain⟨bh,an,aM⟩:=bA.two;refine Ke (v:=.agg #[.slice aN gn a3,.slice S tn aX,.slice bG k aO,.int .i64 s.fault]) (by simp[results,Tryz.results23,go_sem,bh]) rfl ?_;have ch:=bK.1.st;rw[JQ (aC bN.2.2)] at ch;have bc:=bK.1.lo;have cP:=bt.o;refine⟨aN,a3,S,aX,bG,aO,xs,_,_,bj,bI,rfl,ch.al λb O=>bw.2.block b (bc b O).2 (aC (bc b O)),λb O=>?_,bw.1⟩;have:=bc b O;have:=bw.2.size;omega
 ):p:=h
end Bs
open Bs in
theorem fa(s:ah)(GA TA HA:Kj)(gn gc tn tc hn hc:Nat)(w:World)(h:kR w (ao w) s GA gn TA tn HA hn)(T:Small s) :
  Calls prog 23 #[.agg #[.slice GA gn gc,.slice TA tn tc,.slice HA hn hc,.int .i64 s.fault]] w (G7 w s gn tn hn):=by
 have rU:gn=s.globals.length:=by have:=h.g.1;simpa using this.symm
 have rV:tn=s.table.length:=by have:=h.t.1;simpa using this.symm
 have pJ:hn=s.threads.length:=by have:=h.h.1;simpa using this.symm
 have bz:gn<=100000:=by have:=T.g;omega
 have cz:tn<=5000:=by have:=T.t;omega
 have dr:hn<=1000:=by have:=T.h;omega
 have bN:=av rU rV pJ;obtain⟨aT,a5⟩:=aI T h;clear h T rU rV pJ;go_enter func23,ntmps23;go_upto_region 1 with(fail);generalize ba:World.alloc _ _=W;have ar:=jN ba;have cA:=fQ ba;have bp:=fR ba;have cP:W.heap.size=w.heap.size+2:=by rw[<-ba];simp
 have ab:=b9 ar cA bp (a5.on ar);obtain⟨a0,al,af⟩:=cA.two;have bt:=ae cP;clear ba ar cA bp cP;refine uU (λ_=>False) [10] (.free 0 (.held 1 (.free 3 (.held 4 (.free 6 (.held 7 (.pick [2,9] (λi=>bif i == 2 then .pick [5,9] (λi=>bif i == 5 then .free 8 (.pick [9] (λ_=>.pick [10] (λ_=>.stop))) else .pick [5] (λ_=>.free 8 (.pick [10] (λ_=>.stop)))) else .pick [2] (λ_=>.pick [5] (λ_=>.free 8 (.pick [10] (λ_=>.stop)))))))))))) ?_;refine tf ?_;refine th ?_;refine tf ?_;refine th ?_;refine tf ?_;refine th ?_;refine vn (P:=?P1) (ops:=?o1) (Q:=?q1) (R:=?r1) (tails:=?t1) (rest:=.pick [10] (λ_=>.stop)) (aa:=?aa) (C:=HV W s gn tn) (λkey=>?main) ?key
 case main=>
  refine b1 ?_ ?_
  ·
   refine bD rfl (λK hK=>?_) rfl;go_simp;refine(Sl.kY (ab.2.2.2.on (Fr.refl _ W).drew).g ad).mono ?_;rintro r aL ⟨aN,a3,rfl,E,z,L⟩;have s1:=L.size;have q1:W.drew.heap.size=W.heap.size:=rfl;refine gu hK (L) ?_;clear hK K;refine b1 ?_ ?_
   ·
    refine bD rfl (λK hK=>?_) rfl;go_simp;refine(Sl.tW (ab.2.2.2.on (Fr.aL L)).t ad).mono ?_;rintro r aV ⟨S,aX,rfl,I,ax,H⟩;have s2:=H.size;refine gu hK (H) ?_;clear hK K;refine tf ?_;refine aB ?_;refine gX ?_;have hC:HV W s gn tn (aV.heap.size) aN a3 S aX (aV.alloc (.cells #[.slice none 0 0,.slice none 0 0,.slice none 0 0,.int .i64 0] 31)):=by
     refine⟨((Fr.aL L).trans H).alloc _,Kg,ad,(E.aj H).aj (Kf.alloc _),I.aj (Kf.alloc _),λb O=>?_,λb O=>⟨?_,?_,λac=>?_⟩⟩
     .have:=z b O;omega
     .have:=ax b O;omega
     .have:=ax b O;omega
     .have:=ax b O;have:=z b ac;omega
    generalize aV.heap.size=cS at hC ⊢;exact key cS aN a3 S aX _ hC
   ·
    refine gX ?_;refine GP (λV=>Ext aL V/\au V aL.heap.size 31 #[.slice none 0 0,.slice none 0 0,.slice none 0 0,.int .i64 0]/\aL.heap.size<V.heap.size) ⟨Kf.alloc _,Kg,(Kg).lt⟩ (λV hV=>?_);refine aB ?_;refine bD rfl (λK hK=>?_) rfl;go_simp;refine(Sl.tW ((ab.2.2.2.on (Fr.aL L)).on hV.1).t ad).mono ?_;rintro r aV ⟨S,aX,rfl,I,ax,H⟩;have s2:=H.size;have bs:=hV.1.size;refine gu hK (H) ?_;clear hK K;refine tf ?_;have hC:HV W s gn tn (aL.heap.size) aN a3 S aX aV:=by
     refine⟨((Fr.aL L).trans hV.1).trans H,hV.2.1.aj H,ad,(E.aj hV.1).aj H,I,λb O=>?_,λb O=>⟨?_,?_,λac=>?_⟩⟩
     .have:=z b O;omega
     .have:=ax b O;omega
     .have:=ax b O;have:=hV.2.2;omega
     .have:=ax b O;have:=z b ac;omega
    generalize aL.heap.size=cS at hC ⊢;exact key cS aN a3 S aX _ hC
  ·
   refine gX ?_;refine GP (λV=>Ext W V/\au V W.heap.size 31 #[.slice none 0 0,.slice none 0 0,.slice none 0 0,.int .i64 0]/\W.heap.size<V.heap.size) ⟨(Kf.drew).alloc _,au.new W.drew _ _,(au.new W.drew _ _).lt⟩ (λV hV=>?_);refine aB ?_;refine bD rfl (λK hK=>?_) rfl;go_simp;refine(Sl.kY (ab.2.2.2.on hV.1).g ad).mono ?_;rintro r aL ⟨aN,a3,rfl,E,z,L⟩;have s1:=L.size;have am:=hV.1.size;refine gu hK (L) ?_;clear hK K;refine aB ?_;refine bD rfl (λK hK=>?_) rfl;go_simp;refine(Sl.tW ((ab.2.2.2.on hV.1).on L).t ad).mono ?_;rintro r aV ⟨S,aX,rfl,I,ax,H⟩;have s2:=H.size;refine gu hK (H) ?_;clear hK K;refine tf ?_;have hC:HV W s gn tn (W.heap.size) aN a3 S aX aV:=by
    refine⟨(hV.1.trans L).trans H,(hV.2.1.aj L).aj H,ad,E.aj H,I,λb O=>?_,λb O=>⟨?_,?_,λac=>?_⟩⟩
    .have:=z b O;have:=hV.2.2;omega
    .have:=ax b O;omega
    .have:=ax b O;have:=hV.2.2;omega
    .have:=ax b O;have:=z b ac;omega
   generalize W.heap.size=cS at hC ⊢;exact key cS aN a3 S aX _ hC
 intro N aN a3 S aX V ⟨a9,cZ,aK,g,F,aH,aD⟩;obtain⟨d0,aQ,aR⟩:=cZ.two;clear a0 al af;exact gN
def xS(w:World)(op num:Int)(eP:ByteArray)(l:List VE)(e:Ending)(J:World):Prop:=∃A n c,e=.returned (.agg #[.int .i64 op,.int .i64 num,.string eP,.slice A n c])/\n<=c/\Sl J (fresh w J) A n (l.map bB)/\Ext w J
def vB(x:VE):Prop:=∀(w:World) (A:Kj) (n c:Nat),Sl w (ao w) A n (x.args.map bB)->Calls prog 60 #[.agg #[.int .i64 x.bP,.int .i64 x.numOf,.string x.dt,.slice A n c]] w (xS w x.bP x.numOf x.dt x.args)
namespace Bt
theorem eI(h:p:=by
 generalize hX:World.setCell aV _ _=Y;have bu:=da hX;have N:=ae (show Ext w Y/\au Y w.heap.size 72 #[.int .i64 op,.int .i64 num,.string eP,.slice bU (k+1) c3]/\au Y (w.heap.size+1) 72 #[.int .i64 0,.int .i64 0,.string ⟨#[]⟩,.slice none 0 0]/\Gr (λb=>w.heap.size+2<=b) (w.heap.size+2) 72 4 Y bU (k+1) c3 ((l.take (k+1)).map bB) from
  ⟨Fr.low (M:=λb=>b=w.heap.size) (Fr.trans (Fr.mono bO.1 λ_ h=>h.elim) bu) λb O=>ad,by rw[<-hX];exact bO.2.1.bH 3 _,bO.2.2.1.on bu ad,by
   rw[aX bw.1,JP];exact bO.2.2.2.eQ bu λb O _=>⟨ad,ad⟩⟩)
 clear hX bu a0 al af bH;go_wp2;go_roundw
 case rel=>exact⟨k+1,bU,c3,by go_num,ad,N.o⟩
 case measure=>exact aU
 ):p:=h
theorem q3(h:p:=by
 have bw:=ak aa bY;have bK:=ae (b2.o y (JL aa));clear aa P bY Z a8 O ar aK cq hG;go_upto_region 6 with(fail);generalize hU:World.alloc _ _=U;have ci:=aY hU;have cK:=aF hU;have c6:=ci.size;have bp:=aJ.2.1.aj ci;have cx:=dT (aJ.1.trans ci) bp (aJ.2.2.1.aj ci) (aJ.2.2.2.aj ci) (bw.2.on (Fr.ext ci));obtain⟨d0,aQ,aR⟩:=cK.two;obtain⟨a0,al,af⟩:=bp.two;clear hU ci cK bp c0 c1 c2 c3 aN;refine fj (λ_=>False) [(0,3),(1,0),(2,0),(3,1),(4,1),(5,2),(6,3),(7,2)] ?_;refine pf ?_
 iterate 2 refine ph ?_
 refine aP rfl (λK hK=>?_);go_simp;refine(bK.o _ _ _ _ (cx.2.2.2.2.on (Fr.ext (Fr.refl _ U).drew))).mono ?_;rintro e aL ⟨cI,cJ,zc,rfl,bC,cF,L⟩;have H1:=av cF bC L;refine gu hK (L) ?_;clear hK K;have ag:Ext U aL:=Fr.aL L;have r:=cx.2.2.2.1.aj ag;have ct:=ag.size;have aE:∀b,(Value.slice a1 k aW).ownBlock=some b->b<U.heap.size:=λb O=>(cx.2.2.2.1.lt O).2;have hd:(bB y).rep aL (mS (λb=>w.heap.size+2<=b) aL (.slice a1 k aW)) (#[.int .i64 y.bP,.int .i64 y.numOf,.string y.dt,.slice cI cJ zc]:Array Value).toList:=
  bj.2 ⟨cI,cJ,zc,rfl,bC,cF.mono λb O=>⟨by have:=O.1;have:U.drew.heap.size=U.heap.size:=rfl;omega,O.2,λh=>by have:=aE b h;have:=O.1;have:U.drew.heap.size=U.heap.size:=rfl;omega⟩⟩
 have bt:=ak r hd;clear cF bC L r hd aE;refine sG ?_;refine az rfl (λK hK=>?_);rw[if_pos (by rfl)];refine pt nT (.tmp 16) (.tmp 19) rfl bt.1 bt.2 rfl rfl rfl ad ad ad ?_;intro bU c3 aV bX g2 cv cR;have bc:∀b,(Value.slice a1 k aW).ownBlock=some b->w.heap.size+2<=b:=λb O=>(bt.1.lt O).1;have bH:=(cx.2.1.aj ag).on g2 (λh=>by have:=bc _ h;omega);have bL:=(cx.2.2.1.aj ag).on g2 (λh=>by have:=bc _ h;omega);have a7:Ext w aV:=Fr.low (M:=λb=>(Value.slice a1 k aW).ownBlock=some b) (Fr.trans (Fr.mono (cx.1.trans ag) λ_ h=>h.elim) g2) λb O=>by have:=bc b O;omega
 have bO:=b9 a7 bH bL bX;clear bX g2 cv cR bc bL a7 a0 al af d0 aQ aR;obtain⟨a0,al,af⟩:=bH.two;exact tN
 ):p:=h
end Bt
open Bt in
theorem fh(op num:Int)(eP:ByteArray)(l:List VE)(ab:∀y∈l,vB y)(hl:l.length<=2)(w:World)(A:Kj)(n c:Nat)(h:Sl w (ao w) A n (l.map bB)) :
  Calls prog 60 #[.agg #[.int .i64 op,.int .i64 num,.string eP,.slice A n c]] w (xS w op num eP l):=by
 have hn:n<=2:=by have:=h.1;simp at this;omega
 have f:=ae (show l.length=n by have:=h.1;simpa using this);obtain⟨H,b2⟩:=aI h ab;clear h ab hl;go_enter func60,ntmps60;go_upto_region 1 with(fail);generalize ba:World.alloc _ _=W;have z:=jN ba;have a2:=fQ ba;have i:=fR ba;obtain⟨a0,al,af⟩:=a2.two;clear ba;go_upto_region 3 with(fail);generalize hX:World.setCell _ _ _=X;have aA:=da hX;have ar:Ext w X:=Fr.low (M:=λb=>b=w.heap.size) (Fr.trans (Fr.mono z λ_ h=>h.elim) aA) λb O=>ad;have aK:au X w.heap.size 72 #[.int .i64 op,.int .i64 num,.string eP,.slice none 0 0]:=hX▸a2.bH 3 _;have cq:au X (w.heap.size+1) 72 #[.int .i64 0,.int .i64 0,.string ⟨#[]⟩,.slice none 0 0]:=i.on aA ad;clear aA z a2 i a0 al af;have aJ:=av ar aK cq;clear hX ar aK cq;go_wp2_with(fail);go_loopw [11] (λcr wr=>∃(k:Nat) (a1:Kj) (aW:Nat),cr=.int .i64 k/\k<=n/\Ext w wr/\au wr w.heap.size 72 #[.int .i64 op,.int .i64 num,.string eP,.slice a1 k aW]/\au wr (w.heap.size+1) 72 #[.int .i64 0,.int .i64 0,.string ⟨#[]⟩,.slice none 0 0]/\Gr (λb=>w.heap.size+2<=b) (w.heap.size+2) 72 4 wr a1 k aW ((l.take k).map bB)) (λcr _=>n - (intOf cr).toNat)
 case atStart=>exact⟨0,none,0,rfl,ad,aJ.1,aJ.2.1,aJ.2.2,Gr.nil _ _ _ _ _⟩
 case round=>
  obtain⟨k,a1,aW,rfl,aj,ar,aK,cq,hG⟩:=hrel;clear aJ;have aJ:=b9 ar aK cq hG;have bd:=cq.lt;by_cases aq:k<n
  .obtain⟨b,o,y,cs,rfl,O,aa,P,a8,Z⟩:=(H.on (Fr.ext ar)).iG c4 aq;exact q2
  .obtain rfl:k=n:=ad;obtain⟨a0,al,af⟩:=aK.two;obtain⟨bh,an,aM⟩:=cq.two;clear ar aK cq hG;go_wp2_with(fail);generalize hX:World.setCell _ _ _=Y;obtain⟨bA,ce,bu⟩:=bk (w:=w) [.int .i64 op,.int .i64 num,.string eP,.slice a1 k aW] (by rfl) aJ.2.2.1 aJ.1 ad hX;have bw:=ak ce bu;clear hX ce bu a0 al af bh an aM;obtain⟨bh,an,aM⟩:=bA.two;refine Ke (v:=.agg #[.int .i64 op,.int .i64 num,.string eP,.slice a1 k aW]) (by simp[results,Tryz.results60,go_sem,bh]) rfl ?_;have aS:=aJ.2.2.2.eQ bw.2 λb O _=>⟨ad,ad⟩
   rw[JQ (aC f.o)] at aS;exact⟨a1,k,aW,rfl,aS.cap.1,aS.sl (λb aq O=>⟨ad,aq⟩) (λb aq O=>⟨ad,aq⟩),bw.1⟩
theorem iR:∀x:VE,vB x
 | .num n=>λw A m c h=>fh 1 n ⟨#[]⟩ [] (by simp) (by simp) w A m c h
 | .eP s=>λw A m c h=>fh 2 0 s [] (by simp) (by simp) w A m c h
 | .loc k=>λw A m c h=>fh 18 k ⟨#[]⟩ [] (by simp) (by simp) w A m c h
 | .hP k=>λw A m c h=>fh 19 k ⟨#[]⟩ [] (by simp) (by simp) w A m c h
 | .un op x=>λw A m c h=>fh op 0 ⟨#[]⟩ [x] (λy aa=>by rw[J9.1 aa];exact iR x) (by simp) w A m c h
 | .bin op x y=>λw A m c h=>fh op 0 ⟨#[]⟩ [x,y] (λz bi=>by
   simp only[JY,List.not_mem_nil,or_false] at bi;rcases bi with bi|bi
   .rw[bi];exact iR x
   .rw[bi];exact iR y) (by simp) w A m c h
theorem xj(o:Option VE)(w:World)(eo en:Int)(es:ByteArray)(A:Kj)(n c:Nat)(h:(m8 o).rep w (ao w) [.int .i64 eo,.int .i64 en,.string es,.slice A n c]) :
  Calls prog 60 #[.agg #[.int .i64 eo,.int .i64 en,.string es,.slice A n c]] w λe J=>∃a1 aQ aW,e=.returned (.agg #[.int .i64 eo,.int .i64 en,.string es,.slice a1 aQ aW])/\(m8 o).rep J (fresh w J) [.int .i64 eo,.int .i64 en,.string es,.slice a1 aQ aW]/\Ext w J:=by
 cases o with
 | none=>
  obtain⟨bg,c2,e⟩:=eF.1 h;simp only[List.cons.injEq,and_true] at e;obtain⟨e1,e2,e3,cn⟩:=e;injection e1 with _ e1;injection e2 with _ e2;injection e3 with e3;injection cn with cn ci bL;subst e1 e2 e3 cn ci bL;refine(fh 0 0 ⟨#[]⟩ [] (by simp) (by simp) w _ 0 c (Sl.c7 _)).mono ?_;rintro e J ⟨a1,aQ,aW,rfl,ac,ap,aD⟩;obtain rfl:aQ=0:=ap.1.symm
  exact⟨a1,0,aW,rfl,eF.2 ⟨a1,aW,rfl⟩,aD⟩
 | some x=>
  obtain⟨bg,n2,c2,e,hc,hs⟩:=bj.1 h;simp only[List.cons.injEq,and_true] at e;obtain⟨e1,e2,e3,cn⟩:=e;injection e1 with _ e1;injection e2 with _ e2;injection e3 with e3;injection cn with cn ci bL;subst e1 e2 e3 cn ci bL;refine(iR x w _ _ _ hs).mono ?_;rintro e J ⟨a1,aQ,aW,rfl,ac,ap,aD⟩;exact⟨a1,aQ,aW,rfl,bj.2 ⟨a1,aQ,aW,rfl,ac,ap⟩,aD⟩
def Gf(w:World)(l:List VE)(e:Ending)(J:World):Prop:=∃A n c,e=.returned (.slice A n c)/\n<=c/\Sl J (fresh w J) A n (l.map bB)/\Ext w J
namespace Bu
theorem q3(h:p:=by
 have bw:=ak aa bY;clear aa P bY Z a8 O ar hG;go_upto_region 5 with(fail);generalize hU:World.alloc _ _=U;have ci:=aY hU;have cK:=aF hU;have c6:=ci.size;have cx:=av (aJ.1.trans ci) (aJ.2.aj ci) (bw.2.on (Fr.ext ci));obtain⟨d0,aQ,aR⟩:=cK.two;clear hU ci cK c0 c1 c2 c3 aN;go_wp2_with(fail);refine(iR y _ _ _ _ cx.2.2).mono ?_;rintro e aL ⟨cI,cJ,zc,rfl,bC,cF,ag⟩;have r:=cx.2.1.aj ag;have ct:=ag.size;have aE:∀b,(Value.slice a1 k aW).ownBlock=some b->b<U.heap.size:=λb O=>(cx.2.1.lt O).2;have hd:(bB y).rep aL (mS (λb=>w.heap.size<=b) aL (.slice a1 k aW)) (#[.int .i64 y.bP,.int .i64 y.numOf,.string y.dt,.slice cI cJ zc]:Array Value).toList:=
  bj.2 ⟨cI,cJ,zc,rfl,bC,cF.mono λb O=>⟨by have:=O.1;omega,O.2,λh=>by have:=aE b h;have:=O.1;omega⟩⟩
 have H1:=av (cx.1.trans ag) r hd;clear cF bC ag r hd aE d0 aQ aR;go_wp2_with(at_builtin;refine cn nT rfl (.tmp 12) (.tmp 15) rfl H1.2.1 H1.2.2 rfl rfl rfl ad ad ad ?_;intro bU c3 aV bX g2 cv cR;have bN:=ak bX g2;clear bX g2 cv cR);have bc:∀b,(Value.slice a1 k aW).ownBlock=some b->w.heap.size<=b:=λb O=>(H1.2.1.lt O).1;have aO:Ext w aV:=Fr.low (M:=λb=>(Value.slice a1 k aW).ownBlock=some b) (Fr.trans (Fr.mono H1.1 λ_ h=>h.elim) bN.2) λb O=>bc b O;have aT:=ae aO;clear bc aO;go_roundw
 case rel=>exact⟨k+1,bU,c3,rfl,by go_num,ad,aT.o,by rw[aX bw.1,JP];exact bN.1⟩
 case measure=>exact aU
 ):p:=h
end Bu
open Bu in
theorem oC(l:List VE)(hl:l.length<=100000)(w:World)(A:Kj)(n c:Nat)(h:Sl w (ao w) A n (l.map bB)) :
  Calls prog 62 #[.slice A n c] w (Gf w l):=by
 have ck:l.length=n:=by have:=h.1;simpa using this
 have hn:n<=100000:=ad;obtain⟨f,H⟩:=aI ck h;clear h hl ck;go_enter func62,ntmps62;go_wp2_with(fail);go_loopw [3,8] (λsv cr wr=>∃(k:Nat) (a1:Kj) (aW:Nat),sv=.slice a1 k aW/\cr=.int .i64 k/\k<=n/\Ext w wr/\Gr (λb=>w.heap.size<=b) w.heap.size 72 4 wr a1 k aW ((l.take k).map bB)) (λ_ cr _=>n - (intOf cr).toNat)
 case atStart=>exact⟨0,none,0,rfl,rfl,ad,Kf,Gr.nil _ _ _ _ _⟩
 case round=>
  obtain⟨k,a1,aW,rfl,rfl,aj,ar,hG⟩:=hrel;have aJ:=ak ar hG;have l4:=ar.size;by_cases aq:k<n
  .obtain⟨b,o,y,cs,rfl,O,aa,P,a8,Z⟩:=(H.on (Fr.ext ar)).iG c4 aq;exact q2
  .obtain rfl:k=n:=ad;clear ar hG;go_wp2_with(fail);go_ret;have aS:=aJ.2;rw[JQ (aC f.o)] at aS;exact⟨a1,k,aW,rfl,aS.cap.1,aS.sl (λb aq O=>⟨O,aq⟩) (λb aq O=>⟨O,aq⟩),aJ.1⟩
theorem oE(p:bN)(w:World)(A:Kj)(n c:Nat)(h:(c8 p).rep w (ao w) [.bool p.param,.int .i64 p.index,.slice A n c]) :
  Calls prog 61 #[.agg #[.bool p.param,.int .i64 p.index,.slice A n c]] w λe J=>∃a1 aQ aW,e=.returned (.agg #[.bool p.param,.int .i64 p.index,.slice a1 aQ aW])/\(c8 p).rep J (fresh w J) [.bool p.param,.int .i64 p.index,.slice a1 aQ aW]/\Ext w J:=by
 obtain⟨bg,n2,c2,e,hc,hs⟩:=dB.1 h;simp only[List.cons.injEq,and_true,true_and] at e;injection e with cn ci bL;subst cn ci bL;have H:=ae hs;have I:p.at_.toList.length<=100000:=by cases p.at_<;>simp
 clear h hs hc;generalize j:p.param=pb;generalize k:p.index=pi;have cw:=ak j k;clear j k;go_enter func61,ntmps61;go_upto_region 1 with(fail);generalize ba:World.alloc _ _=W;have z:=jN ba;have a2:=fQ ba;have i:=fR ba;have ab:=b9 z a2 i (H.on (Fr.ext z));have cP:=i.lt;obtain⟨a0,al,af⟩:=a2.two;clear ba z a2 i;go_wp2_with(fail);refine(oC _ I W _ _ _ ab.2.2.2).mono ?_;rintro e aL ⟨cI,cJ,zc,rfl,bC,cF,ag⟩;have ct:=ag.size;have cA:=ab.2.1.aj ag;have f:=ab.2.2.1.aj ag;have H1:=dT (ab.1.trans ag) bC cF cA f;clear a0 al af;obtain⟨a0,al,af⟩:=cA.two;clear cA f ag bC cF;go_upto_region 2 with(fail);generalize hX:World.setCell _ _ _=X;have aA:=da hX;have ar:Ext w X:=Fr.low (M:=λb=>b=w.heap.size) (Fr.trans (Fr.mono H1.1 λ_ h=>h.elim) aA) λb O=>ad;have aK:au X w.heap.size 74 #[.bool pb,.int .i64 pi,.slice cI cJ zc]:=hX▸H1.2.2.2.1.bH 2 _;have cq:au X (w.heap.size+1) 74 #[.bool false,.int .i64 0,.slice none 0 0]:=H1.2.2.2.2.on aA ad;have aJ:=av ar aA cq;clear hX a0 al af;obtain⟨a0,al,af⟩:=aK.two;obtain⟨bh,an,aM⟩:=cq.two;clear aA ar aK cq;go_wp2_with(fail);generalize hX:World.setCell _ _ _=Y;obtain⟨bA,ce,bu⟩:=bk (w:=w) [.bool pb,.int .i64 pi,.slice cI cJ zc] (by rfl) aJ.2.2 aJ.1 ad hX;have bw:=ak ce bu;clear hX ce bu a0 al af bh an aM;obtain⟨bh,an,aM⟩:=bA.two;refine Ke (v:=.agg #[.bool pb,.int .i64 pi,.slice cI cJ zc]) (by simp[results,Tryz.results61,go_sem,bh]) rfl ?_;have bi:w.heap.size+1<aL.heap.size:=ad;refine⟨cI,cJ,zc,rfl,?_,bw.1⟩;rw[<-cw.1,<-cw.2]
 refine dB.2 ⟨cI,cJ,zc,rfl,H1.2.1,(H1.2.2.1.al λb O=>(bw.2.block b (BS O.2 aJ.2.1.size) (aC O.1)).trans (aJ.2.1.block b O.2 (aC O.1))).mono λb O=>⟨by have:=O.1;omega,by have:=O.2;have:=aJ.2.1.size;have:=bw.2.size;omega⟩⟩
structure pP(w:World)(s:ah)(t:Int)(f:ai)(O bb hn bT cT n fc:Nat)(IA:Kj)(i ic:Nat)(bo:Kj)(l lc:Nat):Prop where
 fault:s.fault=0
 t0:0<=t
 tn:t<hn
 lb:O<w.heap.size
 lf:bT<w.heap.size
 cell:w.cell? ⟨O,bb+t.toNat,none⟩=some (.slice (some ⟨bT,cT,none⟩) (n+1) fc)
 c0:w.cell? ⟨bT,cT+n*4,none⟩=some (.int .i64 f.proc)
 c1:w.cell? ⟨bT,cT+n*4+1,none⟩=some (.int .i64 f.pc)
 c2:w.cell? ⟨bT,cT+n*4+2,none⟩=some (.slice IA i ic)
 c3:w.cell? ⟨bT,cT+n*4+3,none⟩=some (.slice bo l lc)
 Jf:i<=ic
 lcs:l<=lc
 ints:Sl w (ao w) IA i (f.ints.map D.i)
 aq:Sl w (ao w) bo l (f.aq.map D.i)
 th:∃fs,s.threads[t.toNat]?=some (fs++[f])/\fs.length=n
 n1:n+1<=fc
 nb:n<=1000000
theorem pP.on{w J:World}{s:ah}{t:Int}{f:ai}{O bb hn bT cT n fc:Nat}{IA:Kj}{i ic:Nat}{bo:Kj}{l lc:Nat}(h:pP w s t f O bb hn bT cT n fc IA i ic bo l lc)(he:Ext w J):pP J s t f O bb hn bT cT n fc IA i ic bo l lc:=
 ⟨h.fault,h.t0,h.tn,JJ h.lb he.size,JJ h.lf he.size,(he.cell h.lb λh=>h).trans h.cell,(he.cell h.lf λh=>h).trans h.c0,(he.cell h.lf λh=>h).trans h.c1,(he.cell h.lf λh=>h).trans h.c2,(he.cell h.lf λh=>h).trans h.c3,h.Jf,h.lcs,h.ints.on (Fr.ext he),h.aq.on (Fr.ext he),h.th,h.n1,h.nb⟩
theorem kR.top{w:World}{s:ah}{GA TA HA:Kj}{gn tn:Nat}(h:kR w (ao w) s GA gn TA tn HA hn)(T:Small s){t:Int}{f:ai}(ht:dJ s t=some f):
  ∃O bb bT cT n fc IA i ic bo l lc,HA=some ⟨O,bb,none⟩/\pP w s t f O bb hn bT cT n fc IA i ic bo l lc:=by
 obtain⟨h0,ac,fs,bx⟩:=jb ht;have hl:=h.h.1;rw[JM] at hl;have aj:=(List.getElem?_eq_some_iff.1 bx).1;obtain⟨O,bb,c7,FA,m,fc,rfl,bB,az,hc,hm,aA⟩:=h.h.kN (k:=t.toNat) ad;rw[bx] at az;injection az with az;subst az;have bS:=aA.1;simp at bS;obtain⟨bT,cT,U,IA,i,ic,bo,l,lc,rfl,cy,J,c0,c1,c2,c3,ap,aD,bt,cl⟩:=aA.oq (k:=fs.length) ad;simp at J;subst J;subst bS;exact⟨O,bb,bT,cT,fs.length,fc,IA,i,ic,bo,l,lc,rfl,h0,ac,ad,bB,cy,hc,c0,c1,c2,c3,ap,aD,bt,cl,⟨fs,bx,rfl⟩,hm,by have:=(T.f _ (JL bx)).1;simp at this;omega⟩
theorem wk(o c:Value)(O bb hn hc bT cT n fc:Nat)(t:Int)(w:World)(h0:0<=t)(aq:t<hn)(dr:O<w.heap.size)(Q:w.cell? ⟨O,bb+t.toNat,none⟩=some (.slice (some ⟨bT,cT,none⟩) (n+1) fc))(ao:n<=1000000) :
  Calls prog 27 #[.agg #[o,c,.slice (some ⟨O,bb,none⟩) hn hc,.int .i64 0],.int .i64 t] w λe J=>e=.returned (.pointer (some ⟨bT,cT+n*4,none⟩))/\Ext w J:=by
 have q1:decide (t<0)=false:=by simp;omega
 have cM:decide (t>=hn)=false:=by simp;omega
 have c7:(((n+1:Nat):Int) == 0)=false:=by simp;omega
 exact r3
theorem qE{w:World}{s:ah}{GA TA HA:Kj}{gn tn:Nat}(h:kR w (ao w) s GA gn TA tn HA hn){t:Int}(ht:dJ s t=none):
  s.fault≠0\/t<0\/(hn:Int)<=t\/(0<=t/\t<hn/\∃O bb FA fc,HA=some ⟨O,bb,none⟩/\O<w.heap.size/\w.cell? ⟨O,bb+t.toNat,none⟩=some (.slice FA 0 fc)):=by
 by_cases h0:s.fault≠0
 .exact .inl h0
 by_cases ac:t<0
 .exact .inr (.inl ac)
 by_cases ap:(hn:Int)<=t
 .exact .inr (.inr (.inl ap))
 refine .inr (.inr (.inr ⟨ad,ad,?_⟩));obtain⟨O,bb,fs,FA,m,fc,rfl,bB,bx,hc,hm,aA⟩:=h.h.kN (k:=t.toNat) ad;unfold dJ at ht;rw[if_neg ad,bx] at ht;have bq:fs=[]:=by simpa using ht
 have bS:=aA.1;rw[bq] at bS;simp at bS;subst bS;exact⟨O,bb,FA,fc,rfl,bB,hc⟩
theorem xk(s:ah)(GA TA HA:Kj)(gn gc tn tc hn hc:Nat)(t:Int)(w:World)(h:kR w (ao w) s GA gn TA tn HA hn)(ht:dJ s t=none) :
  Calls prog 27 #[.agg #[.slice GA gn gc,.slice TA tn tc,.slice HA hn hc,.int .i64 s.fault],.int .i64 t] w λe J=>e=.returned (.pointer none)/\Ext w J:=by
 have l:=qE h ht;clear h ht;generalize bi:s.fault=z at *;clear bi;by_cases h0:z=0
 case neg=>
  have ay:(z != 0)=true:=by simpa using h0
  clear l h0;exact r3
 subst h0;rcases l with h|h|h|⟨ac,ap,O,bb,FA,fc,rfl,bB,Q⟩
 .exact absurd rfl h
 .have q1:decide (t<0)=true:=by simpa using h
  clear h;exact r3
 .have q1:decide (t<0)=false:=by simp;omega
  have cM:decide (t>=hn)=true:=by simpa using h
  clear h;exact r3
 .have q1:decide (t<0)=false:=by simp;omega
  have cM:decide (t>=hn)=false:=by simp;omega
  exact r3
theorem ks{w:World}{s:ah}{t:Int}{f:ai}{bT cT:Nat}{IA:Kj}{i ic:Nat}(h:pP w s t f O bb hn bT cT n fc IA i ic bo l lc)(o c:Value)(hc:Nat):
  Calls prog 27 #[.agg #[o,c,.slice (some ⟨O,bb,none⟩) hn hc,.int .i64 s.fault],.int .i64 t] w λe J=>e=.returned (.pointer (some ⟨bT,cT+n*4,none⟩))/\Ext w J:=by
 rw[h.fault];exact wk o c O bb hn hc bT cT n fc t w h.t0 h.tn h.lb h.cell h.nb
namespace Bv
theorem kT(h:p:=by
 obtain⟨a0,al,af⟩:=aK.two;obtain⟨bh,an,aM⟩:=cq.two;replace Q:=(ar.cell (j:=bb+t.toNat) dr λh=>h).trans Q
 replace c0:=(ar.cell (j:=cT+n*4) cy λh=>h).trans c0
 replace c1:=(ar.cell (j:=cT+n*4+1) cy λh=>h).trans c1
 replace c2:=(ar.cell (j:=cT+n*4+2) cy λh=>h).trans c2
 replace c3:=(ar.cell (j:=cT+n*4+3) cy λh=>h).trans c3
 obtain⟨bd,a2⟩:=aI ar cq;clear ba ar aK cq dr cy;go_wp2_with(fail);generalize hX:World.setCell _ _ _=X;obtain⟨a6,bf,y⟩:=bk (w:=w) [.int .i64 f.proc,.int .i64 f.pc,.slice IA i ic,.slice bo l lc] (by rfl) a2.o bd.o ad hX;have aJ:=ae bf;clear hX bf y a0 al af bh an aM c0 c1 c2 c3 Q;obtain⟨bh,an,aM⟩:=a6.two;refine Ke (v:=.tuple #[.agg #[.int .i64 f.proc,.int .i64 f.pc,.slice IA i ic,.slice bo l lc],.bool true]) (by simp[results,Tryz.results114,go_sem,bh]) rfl ?_;exact⟨rfl,aJ.o⟩
 ):p:=h
end Bv
open Bv in
theorem my{w:World}{s:ah}{t:Int}{f:ai}{bT cT:Nat}{IA:Kj}{i ic:Nat}(h:pP w s t f O bb hn bT cT n fc IA i ic bo l lc)(o c:Value)(hc:Nat):
  Calls prog 114 #[.agg #[o,c,.slice (some ⟨O,bb,none⟩) hn hc,.int .i64 s.fault],.int .i64 t] w λe J=>e=.returned (.tuple #[.agg #[.int .i64 f.proc,.int .i64 f.pc,.slice IA i ic,.slice bo l lc],.bool true])/\Ext w J:=by
 obtain⟨ac,h0,aq,dr,cy,Q,c0,c1,c2,c3,_,_,_,_,_,_,ao⟩:=h;rw[ac];have q1:decide (t<0)=false:=by simp;omega
 have cM:decide (t>=hn)=false:=by simp;omega
 have c7:(((n+1:Nat):Int) == 0)=false:=by simp;omega
 clear ac;go_enter func114,ntmps114;exact kS
namespace Bw
theorem kT(h:p:=by
 obtain⟨a0,al,af⟩:=aK.two;obtain⟨bh,an,aM⟩:=cq.two;replace Q:=(ar.cell (j:=bb+t.toNat) bB λh=>h).trans Q
 have bd:=ak ar cq;clear ba ar aK cq;by_cases hm:m=0
 .subst hm;clear dF;exact An
 .have c7:((m:Int) == 0)=false:=by simp;omega
  have c8:(z != 0)=true:=by simpa using dF.resolve_left hm
  clear dF hm;exact An
 ):p:=h
end Bw
open Bw in
theorem xw(s:ah)(GA TA HA:Kj)(gn gc tn tc hn hc:Nat)(t:Int)(w:World)(h:kR w (ao w) s GA gn TA tn HA hn)(ht:dJ s t=none) :
  Calls prog 114 #[.agg #[.slice GA gn gc,.slice TA tn tc,.slice HA hn hc,.int .i64 s.fault],.int .i64 t] w λe J=>e=.returned (.tuple #[.agg #[.int .i64 0,.int .i64 0,.slice none 0 0,.slice none 0 0],.bool false])/\Ext w J:=by
 have l:t<0\/(hn:Int)<=t\/(0<=t/\t<hn/\∃O bb FA m fc,HA=some ⟨O,bb,none⟩/\O<w.heap.size/\w.cell? ⟨O,bb+t.toNat,none⟩=some (.slice FA m fc)/\(m=0\/s.fault≠0)):=by
  by_cases ac:t<0
  .exact .inl ac
  by_cases ap:(hn:Int)<=t
  .exact .inr (.inl ap)
  refine .inr (.inr ⟨ad,ad,?_⟩);obtain⟨O,bb,fs,FA,m,fc,rfl,bB,bx,hc,hm,aA⟩:=h.h.kN (k:=t.toNat) ad;refine⟨O,bb,FA,m,fc,rfl,bB,hc,?_⟩;rcases qE h ht with aD|aD|aD|⟨_,_,aN,i,cp,b7,he,_,aO⟩
  .exact .inr aD
  .omega
  .omega
  .injection he with he;injection he with L H;subst L H;rw[hc] at aO;injection aO with aO;injection aO with _ aO _;exact .inl aO
 clear h ht;generalize bi:s.fault=z at *;clear bi;rcases l with h|h|⟨ac,ap,O,bb,FA,m,fc,rfl,bB,Q,dF⟩
 .have q1:decide (t<0)=true:=by simpa using h
  exact Fu
 .have q1:decide (t<0)=false:=by simp;omega
  have cM:decide (t>=hn)=true:=by simpa using h
  exact Fu
 .have q1:decide (t<0)=false:=by simp;omega
  have cM:decide (t>=hn)=false:=by simp;omega
  go_enter func114,ntmps114;exact kS
structure UV where
 GA:Option Addr
 gn:Nat
 gc:Nat
 MA:Option Addr
 mn:Nat
 mc:Nat
 PA:Option Addr
 pn:Nat
 pc:Nat
structure SV where
 GA:Option Addr
 gn:Nat
 gc:Nat
 TA:Option Addr
 tn:Nat
 tc:Nat
 HA:Option Addr
 hn:Nat
 hc:Nat
abbrev UV.val(p:UV)(u:ay):Array Value:=#[.slice p.GA p.gn p.gc,.slice p.MA p.mn p.mc,.slice p.PA p.pn p.pc,.int .i64 u.main]
abbrev SV.val(q:SV)(s:ah):Array Value:=#[.slice q.GA q.gn q.gc,.slice q.TA q.tn q.tc,.slice q.HA q.hn q.hc,.int .i64 s.fault]
structure UV.Ok(p:UV)(w:World)(u:ay):Prop where
 at_:jf w (ao w) u p.GA p.gn p.MA p.mn p.PA p.pn
 gc:p.gn<=p.gc
 mc:p.mn<=p.mc
 pc:p.pn<=p.pc
structure SV.Ok(q:SV)(w:World)(s:ah):Prop where
 at_:kR w (ao w) s q.GA q.gn q.TA q.tn q.HA q.hn
 gc:q.gn<=q.gc
 tc:q.tn<=q.tc
 hc:q.hn<=q.hc
theorem UV.Ok.on{p:UV}{w J:World}{u:ay}(h:p.Ok w u)(he:Ext w J):p.Ok J u:=⟨h.at_.on he,h.gc,h.mc,h.pc⟩
theorem SV.Ok.on{q:SV}{w J:World}{s:ah}(h:q.Ok w s)(he:Ext w J):q.Ok J s:=⟨h.at_.on he,h.gc,h.tc,h.hc⟩
theorem kZ{u:ay}(hU:de u):elems u.af<=5000:=by
 have ac:=dR u.af;have ap:=cq hU.xK;omega
theorem aV.small{u:ay}{N:Nat}{s:ah}(hU:de u)(h:aV u N s)(hD:N<=100000):Small s:=by
 refine⟨by have:=h.c5;have:=hU.lN;omega,by have:=h.table;have:=cq hU.xK;omega,by have:=h.xB;omega,λt ht=>⟨by have:=(h.eM t ht).1;omega,λf aA=>?_⟩⟩;obtain⟨p,hp,_,ac,ap⟩:=((h.eM t ht).2 f aA).ex;have:=hU.procs p (JL hp);have:=this.ints;have:=(hU.procs p (JL hp)).aq;omega
section
variable {u:ay} {N:Nat} {s:ah} {f:ai} {cc:cG} {pl:bN} {w:World} {GA MA IA QA:Kj} {gn gc mn mc i ic qm qc:Nat}
theorem C2(hU:de u)(hS:aV u N s)(hF:bX u f)(hp:u.procs[f.proc.toNat]?=some cc)(hx:cQ (bp u) cc.locals cc.aq pl)(j:pl.param=false)
  (hm:Sl w (ao w) MA mn (u.af.map eL)) (aS:Sl w (ao w) GA gn (s.globals.map D.i)) (I:Sl w (ao w) IA i (f.ints.map D.i)) (bx:(c8 pl).rep w (ao w) [.bool pl.param,.int .i64 pl.index,.slice QA qm qc]) :
  (qm=0/\cF u s f pl=(0,0))\/∃(e:VE) (k:Nat) (m:bI) (b o:Nat) (c0 c1 c2 c3:Value),QA=some ⟨b,o,none⟩/\qm=1/\pl.index=(k:Nat)/\xP w MA mn u.af GA IA gn i s.globals f.ints e k m b o c0 c1 c2 c3/\mI s.globals f.ints e/\cF u s f pl=idx m.size (ev s.globals f.ints e):=by
 rcases hx with⟨ac,_⟩|⟨_,m,ap,aD,bt,cl⟩
 .rw[j] at ac;cases ac
 obtain⟨bg,n2,c2,e,_,hs⟩:=dB.1 bx;simp only[List.cons.injEq,and_true,true_and] at e;injection e with cn ci bL;subst cn ci bL;have ab:u.af[pl.index.toNat]?=some m:=aD;by_cases bi:0<m.size
 .obtain⟨x,hx,pA⟩:=bt bi;right;rw[hx] at hs;simp only[Option.toList_some,JO,J5] at hs;obtain rfl:qm=1:=hs.1.symm;obtain⟨b,o,bl,Z,U,F,rfl,O,aZ,c0,c1,c2,c3⟩:=hs.Dj (c4 x);obtain⟨bb,n,_⟩:=v5 hS hF hp pA;have rU:=aS.1;have E:=I.1;have a3:=hm.1;rw[JM] at rU E a3;have aj:=(List.getElem?_eq_some_iff.1 ab).1;refine⟨x,pl.index.toNat,m,b,o,bl,Z,U,F,rfl,rfl,ad,⟨⟨aS.ints,I.ints,by rw[<-rU,<-E];exact bb,jZ x _ aZ⟩,hm.na,ad,ab,O,c0,c1,c2,c3⟩,n,?_⟩;unfold cF;rw[hx,ab];rfl
 .left;rw[cl bi] at hs;refine⟨hs.1.symm,?_⟩;unfold cF;rw[cl bi]
theorem GH(hU:de u)(hS:aV u N s)(hF:bX u f)(hp:u.procs[f.proc.toNat]?=some cc)(hx:cQ (bp u) cc.locals cc.aq pl)(j:pl.param=false)
  (hm:Sl w (ao w) MA mn (u.af.map eL)) (aS:Sl w (ao w) GA gn (s.globals.map D.i)) (I:Sl w (ao w) IA i (f.ints.map D.i)) (bx:(c8 pl).rep w (ao w) [.bool pl.param,.int .i64 pl.index,.slice QA qm qc]) :
  Calls prog 110 #[.agg #[.bool false,.int .i64 pl.index,.slice QA qm qc],.slice MA mn mc,.slice GA gn gc,.slice IA i ic] w (fx w (cF u s f pl)):=by
 rcases C2 hU hS hF hp hx j hm aS I bx with⟨rfl,h⟩|⟨e,k,m,b,o,c0,c1,c2,c3,rfl,rfl,aj,hI,_,h⟩
 .rw[h];exact ti _ _ _ _ _ _ _ _
 .rw[h,aj];exact wR _ _ _ _ _ _ _ _ _ _ _ _ _ _ _ _ _ _ _ _ _ _ _ hI
theorem GR(hU:de u)(hS:aV u N s)(hF:bX u f)(hp:u.procs[f.proc.toNat]?=some cc)(hx:cQ (bp u) cc.locals cc.aq pl)(j:pl.param=false)
  (hm:Sl w (ao w) MA mn (u.af.map eL)) (aS:Sl w (ao w) GA gn (s.globals.map D.i)) (I:Sl w (ao w) IA i (f.ints.map D.i)) (bx:(c8 pl).rep w (ao w) [.bool pl.param,.int .i64 pl.index,.slice QA qm qc]) :
  Calls prog 117 #[.agg #[.bool false,.int .i64 pl.index,.slice QA qm qc],.slice MA mn mc,.slice GA gn gc,.slice IA i ic] w (fx w (cF u s f pl)):=by
 rcases C2 hU hS hF hp hx j hm aS I bx with⟨rfl,h⟩|⟨e,k,m,b,o,c0,c1,c2,c3,rfl,rfl,aj,hI,n,h⟩
 .rw[h];exact pL _ _ _ _ _ _ _ _
 .rw[h,aj];exact rE _ _ _ _ _ _ _ _ _ _ _ _ _ _ _ _ _ _ _ _ _ _ _ hI n
end
end Go.Proofs.YtnigabjngpnbiaaGreat

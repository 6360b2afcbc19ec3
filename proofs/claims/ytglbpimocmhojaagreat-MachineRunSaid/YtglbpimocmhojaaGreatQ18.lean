/- Part 18 of the proof. No condition of its own. -/
import Derived.Test.YtglbpimocmhojaaGreatQ17
namespace Go.Proofs.YtglbpimocmhojaaGreat
open Go.RowKit Go.Proofs.Tryz
set_option maxRecDepth 1000000
set_option maxHeartbeats 25600000
set_option linter.unusedVariables false
variable{a:Act}{fs:List al}{c n:Nat}{o:Oper}{FA:Lp}{rest:PT}{p:Prop}{S:World}
section
variable {P:Program} {e t:TypeId} {z:Value} {size bytes:Nat}
theorem eW(A:Lp)(n c:Nat):(bq A n c).Nodup:=by unfold bq;cases (Value.slice A n c).ownBlock<;>simp
namespace B1
theorem AN(h:p:=by
 refine h I aJ ab ⟨bO,rfl⟩ (Ll.grown a2 λg a2=>.inl (by rw[h0.eq];simp[a2])) λb O=>?_;have aV:(Value.slice I (n+1) aJ).ownBlock=some b:=by simpa using O
 rcases H with H|H
 .rw[H] at aV;exact .inl (by rw[h0.eq];simp[aV])
 .have:=(bO.lt b aV).2;rw[H] at aV;injection aV with aV;right;simp at aV;omega
 ):p:=h
end B1
open B1 in
theorem xV{K:Act->World->Prop}{Q:Exit->Act->World->Prop}(bw:ch P t e z size bytes)(s x:Operand)
  (bn:o.op=.call {callee:=.builtin .append,args:=#[s,x],argTypes:=#[t,t]})
  {A:Lp} {n c:Nat} {xs:List Value} {F:List Nat} (h0:Own S e size A n c xs F) {cs:Array Value}
  (hs:a.eval s=.slice A n c) (hx:a.eval x=.slice (some ⟨S.heap.size,0,none⟩) 1 1) (T:cs.size=size) (ac:∀u∈cs.toList,u.oneCell'=true)
  (r:(n+1)*bytes<=140737488355328) (y:n+1<=140737488355328)
  (h:∀I aJ ab,Own ab e size I (n+1) aJ (xs++cs.toList) (bq I (n+1) aJ)->Fr (λb=>b∈F) S ab->(∀b∈bq I (n+1) aJ,b∈F\/(S.heap.size<=b/\b<ab.heap.size))->K (a.put o.dst (.slice I (n+1) aJ)) ab):o.wp P a (S.alloc (.cells cs e)) K Q:=by
 refine j8 _ bw s x bn 0 _ n xs hs (h0.row.alloc _) _ 1 1 cs.toList hx (Src.block (heap_alloc_new S _) 1 ad ac) r y (KZ _) (λh=>nomatch h) λG ab bO cV H=>?_;exact AM
theorem ob{ops:Array Oper}{rest:List Oper}{Q:Exit->Act->World->Prop}(bw:ch P t e z size bytes)(i:o.guard=none)(s x:Operand)
  (bn:o.op=.call {callee:=.builtin .append,args:=#[s,x],argTypes:=#[t,t]})
  {A:Lp} {n c:Nat} {xs:List Value} {F:List Nat} (h0:Own S e size A n c xs F) {cs:Array Value}
  (hs:a.eval s=.slice A n c) (hx:a.eval x=.slice (some ⟨S.heap.size,0,none⟩) 1 1) (T:cs.size=size) (ac:∀u∈cs.toList,u.oneCell'=true)
  (r:(n+1)*bytes<=140737488355328) (y:n+1<=140737488355328)
  (h:∀I aJ ab,Own ab e size I (n+1) aJ (xs++cs.toList) (bq I (n+1) aJ)->Fr (λb=>b∈F) S ab->(∀b∈bq I (n+1) aJ,b∈F\/(S.heap.size<=b/\b<ab.heap.size))->wpList P ops Q rest (a.put o.dst (.slice I (n+1) aJ)) ab):wpList P ops Q (o::rest) a (S.alloc (.cells cs e)):=
 wpList_plain i λ_ hK=>xV bw s x bn h0 hs hx T ac r y λI aJ ab ca g2 cT=>hK _ _ (h I aJ ab ca g2 cT)
end
theorem xC{e4 bC f I:List Nat}{a b:Nat}(h:(e4++bC).Nodup)(ak:∀x∈e4++bC,x<a)(hI:I.Nodup)(d:∀x∈I,a<=x/\x<b)(hK:f.Nodup)(g:∀x∈f,x∈e4\/b<=x)(ay:a<=b):(f++(bC++I)).Nodup:=by
 have h0:=List.nodup_append.1 h;refine List.nodup_append.2 ⟨hK,List.nodup_append.2 ⟨h0.2.1,hI,λx hx y bb c=>?_⟩,λx hx y bb c=>?_⟩
 .have:=ak x (by simp[hx]);have:=d y bb;omega
 .subst c;rcases KM.1 bb with bb|bb
  .rcases g x hx with ac|ac
   .exact h0.2.2 x ac x bb rfl
   .have:=ak x (by simp[bb]);omega
  .have au:=d x bb;rcases g x hx with ac|ac
   .have:=ak x (by simp[ac]);omega
   .omega
theorem Hm{X Y:List Nat}{m:Nat}(hX:X.Nodup)(ct:Y.Nodup)(ac:∀x∈X,x<m)(au:∀y∈Y,m<=y):(X++Y).Nodup:=
 List.nodup_append.2 ⟨hX,ct,λx hx y bb c=>by have:=ac x hx;have:=au y bb;omega⟩
theorem v7{F1 F2 bK bP:List Nat}:(F1++(F2++(bK++bP))).Nodup↔(bK++(F1++(F2++bP))).Nodup:=by
 have h:(F1++(F2++(bK++bP))).Perm (bK++(F1++(F2++bP))):=by
  rw[<-List.append_assoc F1 F2,<-List.append_assoc (F1++F2) bK,<-List.append_assoc F1 F2 bP,<-List.append_assoc bK];exact List.perm_append_comm.append_right bP
 exact h.nodup_iff
structure Small(s:aj):Prop where
 g:s.globals.length<=1000
 t:s.table.length<=5000
 h:s.threads.length<=1000
 f:∀t∈s.threads,t.length<=1000000/\∀f∈t,f.ints.length<=100000/\f.au.length<=100000
structure FK(B:Nat)(w:World)(s:aj)(GA:Lp)(gn gc:Nat)(TA:Lp)(tn tc N k:Nat)(HA:Lp)(hc:Nat)(xs:List Value)(bK bP:List Nat):Prop where
 st:qI w {s with threads:=s.threads.take k} GA gn gc TA tn tc HA k hc xs (bq GA gn gc) (bq TA tn tc) bK bP
 o:aq w N 40 #[.slice GA gn gc,.slice TA tn tc,.slice HA k hc,.int .i64 s.fault]
 ne:N∉bq GA gn gc++(bq TA tn tc++(bK++bP))
 lo:∀b∈bq GA gn gc++(bq TA tn tc++(bK++bP)),B<=b/\b<w.heap.size
 go:B<=N
section
variable {B:Nat} {w ab:World} {s:aj} {GA TA HA:Lp} {gn gc tn tc N k hc:Nat} {xs:List Value} {bK bP:List Nat}
theorem FK.ai(h:FK B w s GA gn gc TA tn tc N k HA hc xs bK bP)(he:Ext w ab):FK B ab s GA gn gc TA tn tc N k HA hc xs bK bP:=
 ⟨h.st.ak λb O=>he.block b (h.lo b O).2 λh=>h,h.o.ai he,h.ne,λb O=>⟨(h.lo b O).1,KE (h.lo b O).2 he.size⟩,h.go⟩
theorem FK.step(h:FK B w s GA gn gc TA tn tc N k HA hc xs bK bP)(bv:s.threads[k]?=some fs){cN:List Value}{e4 bC:List Nat}{aS aT:World}(he:Ext w aS)
  (bn:Own aS 75 4 FA n c cN e4) (J:ka oY aS fs cN bC) (hn:n=fs.length) (nd:(e4++bC).Nodup) (hK:∀b∈e4++bC,w.heap.size<=b/\b<aS.heap.size)
  {be:Lp} {a3:Nat} (a5:Own aT 79 1 be (k+1) a3 (xs++[.slice FA n c]) (bq be (k+1) a3)) (cb:Fr (λb=>b∈bK) aS aT) (r:∀b∈bq be (k+1) a3,b∈bK\/(aS.heap.size<=b/\b<aT.heap.size)) {X:World}
  (hX:aT.setCell ⟨N,2,none⟩ (.slice be (k+1) a3)=X):FK B X s GA gn gc TA tn tc N (k+1) be a3 (xs++[.slice FA n c]) (bq be (k+1) a3) (bP++(e4++bC)):=by
 have hw:=he.size;have bN:=cb.size;have c8:N<w.heap.size:=h.o.lt;have m:=h.st.nd;have l:=v7.1 m;have n2:=List.nodup_append.1 l;have j:∀b∈bq GA gn gc++(bq TA tn tc++bP),b∉bK:=λb O aU=>n2.2.2 b aU b O rfl;have ak:∀b∈bq GA gn gc++(bq TA tn tc++bP),b<w.heap.size/\b≠N:=λb O=>by
  have aV:b∈bq GA gn gc++(bq TA tn tc++(bK++bP)):=by
   exact za
  exact⟨(h.lo b aV).2,λhe=>h.ne (he▸aV)⟩
 have aY:∀b∈bK,b<w.heap.size/\b≠N:=λb O=>by
  have aV:b∈bq GA gn gc++(bq TA tn tc++(bK++bP)):=by simp[O]
  exact⟨(h.lo b aV).2,λhe=>h.ne (he▸aV)⟩
 have i:∀b,b≠N->X.heap[b]?=aT.heap[b]?:=λb O=>by rw[<-hX];exact aR O
 have H:X.heap.size=aT.heap.size:=by rw[<-hX];simp[World.setCell]
 have d:∀b∈bq GA gn gc++(bq TA tn tc++bP),X.heap[b]?=w.heap[b]?:=λb O=>
  (i b (ak b O).2).trans ((cb.block b (by have:=(ak b O).1;omega) (j b O)).trans (he.block b (ak b O).1 λh=>h))
 have f:∀b∈e4++bC,X.heap[b]?=aS.heap[b]?:=λb O=>
  (i b (aC (hK b O))).trans (cb.block b (hK b O).2 λaU=>by have:=hK b O;have:=(aY b aU).1;omega)
 have g:∀b∈bq be (k+1) a3,b≠N:=λb O=>by
  rcases r b O with ac|ac
  .exact(aY b ac).2
  .omega
 have aL:og X fs [.slice FA n c] (e4++bC):=⟨FA,n,c,cN,e4,bC,rfl,rfl,hn,bn.ak λb O=>f b (by simp[O]),J.ak oY.ak λb O=>f b (by simp[O])⟩
 have bZ:s.threads.take (k+1)=s.threads.take k++[fs]:=aZ bv;refine⟨⟨h.st.gl,h.st.tl,?_,h.st.g.ak λb O=>d b (by simp only[KM];exact .inl O),h.st.t.ak λb O=>d b (by simp only[KM];exact .inr (.inl O)),a5.ak λb O=>i b (g b O),?_,?_⟩,?_,?_,λb O=>?_,h.go⟩
 .have:=h.st.hl;show k+1=(s.threads.take (k+1)).length
  rw[bZ,KF,<-this];rfl
 .show ka og X (s.threads.take (k+1)) _ _
  rw[bZ];exact(h.st.hs.ak og.ak λb O=>d b (by simp[O])).snoc aL
 .refine v7.2 ?_;rw[show bq GA gn gc++(bq TA tn tc++(bP++(e4++bC)))=(bq GA gn gc++(bq TA tn tc++bP))++(e4++bC) by simp];refine xC (a:=w.heap.size) (b:=aS.heap.size) l (λx hx=>?_) nd hK (eW _ _ _) (λx hx=>(r x hx).imp id λh=>h.1) hw;rcases KM.1 hx with hx|hx
  .exact(aY x hx).1
  .exact(ak x hx).1
 .have:=(h.o.ai he).on cb λaU=>(aY _ aU).2 rfl;rw[<-hX];exact this.aM 2 _
 .intro a2;simp only[KM] at a2;have ac:=h.ne;simp only[KM] at ac;rcases a2 with a2|a2|a2|a2|a2|a2
  .exact ac (.inl a2)
  .exact ac (.inr (.inl a2))
  .exact g _ a2 rfl
  .exact ac (.inr (.inr (.inr a2)))
  .have:=hK N (by simp[a2]);omega
  .have:=hK N (by simp[a2]);omega
 .rw[H];simp only[KM] at O;have hl:=h.lo;rcases O with O|O|O|O|O|O
  .have:=hl b (by simp[O]);omega
  .have:=hl b (by simp[O]);omega
  .rcases r b O with ac|ac
   .have:=hl b (by simp[ac]);omega
   .have:=h.go;omega
  .have:=hl b (by simp[O]);omega
  .have:=hK b (by simp[O]);have:=h.go;omega
  .have:=hK b (by simp[O]);have:=h.go;omega
end
theorem xk:ch prog 77 75 (.agg #[.int .i64 0,.int .i64 0,.slice none 0 0,.slice none 0 0]) 4 64:=ch.mk' Tryz.underlying77 (by kernel_rfl) rfl ad
theorem sr:ch prog 38 79 (.agg #[.slice none 0 0]) 1 24:=ch.mk' Tryz.underlying38 (by kernel_rfl) rfl ad
theorem Own.ai{w ab:World}{e:TypeId}{z:Nat}{A:Lp}{xs:List Value}{F:List Nat}(h:Own w e z A n c xs F)(he:Ext w ab):Own ab e z A n c xs F:=h.ak λb O=>he.block b (h.lt b O) λh=>h
abbrev IM(W:World)(s:aj)(gn tn:Nat)(N:Nat)(aZ:Lp)(bc:Nat)(aV:Lp)(L:Nat)(V:World):Prop:=Ext W V/\aq V N 40 #[.slice none 0 0,.slice none 0 0,.slice none 0 0,.int .i64 0]/\W.heap.size<=N/\Own V 3 1 aZ gn bc (s.globals.map dc) (bq aZ gn bc)/\Own V 107 2 aV tn L (s.table.flatMap bH) (bq aV tn L)/\(∀b∈bq aZ gn bc,W.heap.size<=b/\b≠N)/\(∀b∈bq aV tn L,W.heap.size<=b/\b≠N/\b∉bq aZ gn bc)
structure GR(aT wr:World)(fs:List al)(j:Nat)(FA:Lp)(fc:Nat)(cN:List Value)(e4 bC:List Nat):Prop where
 ext:Ext aT wr
 o:Own wr 75 4 FA j fc cN e4
 f:ka oY wr (fs.take j) cN bC
 nd:(e4++bC).Nodup
 lo:∀b∈e4++bC,aT.heap.size<=b/\b<wr.heap.size
theorem GR.ai{aT wr ab:World}{fs:List al}{j:Nat}{FA:Lp}{fc:Nat}{cN:List Value}{e4 bC:List Nat}(h:GR aT wr fs j FA fc cN e4 bC)(he:Ext wr ab):GR aT ab fs j FA fc cN e4 bC:=
 ⟨h.ext.trans he,h.o.ai he,h.f.ak oY.ak λb O=>he.block b (h.lo b (by simp[O])).2 λh=>h,h.nd,λb O=>⟨(h.lo b O).1,KE (h.lo b O).2 he.size⟩⟩
theorem GR.step{aT wr:World}{j:Nat}{fc:Nat}{cN:List Value}{e4 bC:List Nat}(h:GR aT wr fs j FA fc cN e4 bC){f:al}(bv:fs[j]?=some f){a b c:World}{IA S:Lp}{i ic l lc:Nat}
  (ar:Ext wr a) (hI:Own a 3 1 IA i ic (f.ints.map dc) (bq IA i ic)) (d:∀x∈bq IA i ic,wr.heap.size<=x/\x<a.heap.size) (an:i=f.ints.length)
  (bw:Ext a b) (bR:Own b 3 1 S l lc (f.au.map dc) (bq S l lc)) (b1:∀x∈bq S l lc,a.heap.size<=x/\x<b.heap.size) (hl:l=f.au.length)
  {cR:Lp} {co:Nat} (bn:Own c 75 4 cR (j+1) co (cN++[.int .i64 f.proc,.int .i64 f.pc,.slice IA i ic,.slice S l lc]) (bq cR (j+1) co)) (J:Fr (λx=>x∈e4) b c) (r:∀x∈bq cR (j+1) co,x∈e4\/(b.heap.size<=x/\x<c.heap.size)) :
  GR aT c fs (j+1) cR co (cN++[.int .i64 f.proc,.int .i64 f.pc,.slice IA i ic,.slice S l lc]) (bq cR (j+1) co) (bC++(bq IA i ic++bq S l lc)):=by
 have am:=h.ext.size;have s1:=ar.size;have s2:=bw.size;have T:=J.size;have O:=(h.ai ar).ai bw;have br:∀x∈e4,x<wr.heap.size:=λx hx=>(h.lo x (by simp[hx])).2;have be:∀x∈bC,x∉e4:=λx hx ac=>(List.nodup_append.1 h.nd).2.2 x ac x hx rfl;have cb:oY c f [.int .i64 f.proc,.int .i64 f.pc,.slice IA i ic,.slice S l lc] (bq IA i ic++bq S l lc):=
  ⟨IA,i,ic,S,l,lc,_,_,rfl,rfl,an,hl,(hI.ai bw).ak λx hx=>J.block x (aC (d x hx)) λac=>by have:=d x hx;have:=br x ac;omega,bR.ak λx hx=>J.block x (b1 x hx).2 λac=>by have:=b1 x hx;have:=br x ac;omega⟩
 refine⟨Fr.low (M:=λx=>x∈e4) (Fr.trans (Fr.mono O.ext λ_ h=>h.elim) J) λx hx=>(h.lo x (by simp[hx])).1,bn,?_,?_,λx hx=>?_⟩
 .rw[aZ bv];exact(O.f.ak oY.ak λx hx=>J.block x (by have:=(h.lo x (by simp[hx])).2;omega) (be x hx)).snoc cb
 .refine xC (a:=wr.heap.size) (b:=b.heap.size) h.nd (λx hx=>(h.lo x hx).2) (Hm (m:=a.heap.size) (eW _ _ _) (eW _ _ _) (λx hx=>(d x hx).2) λx hx=>(b1 x hx).1) (λx hx=>?_) (eW _ _ _) (λx hx=>(r x hx).imp id λh=>h.1) ad;rcases KM.1 hx with hx|hx
  .have:=d x hx;omega
  .have:=b1 x hx;omega
 .simp only[KM] at hx;rcases hx with hx|hx|hx|hx
  .rcases r x hx with ac|ac
   .have:=h.lo x (by simp[ac]);omega
   .omega
  .have:=h.lo x (by simp[hx]);omega
  .have:=d x hx;omega
  .have:=b1 x hx;omega
section
variable {P:Program} {ops:Array Oper} {Q:Exit->Act->World->Prop} {R:World->World->Prop} {tails:List Nat}
theorem wL{α β γ δ ε:Type}{aa:α->β->γ->δ->ε->Act}{C:α->β->γ->δ->ε->World->Prop}{G:Prop}(h:(∀x y z u v V,C x y z u v V->cN P ops Q R tails rest (aa x y z u v) V)->G)(key:∀x y z u v V,C x y z u v V->cN P ops Q R tails rest (aa x y z u v) V):G:=h key
end
theorem Hr{P:Program}{ops:Array Oper}{Q:Exit->Act->World->Prop}{R:World->World->Prop}{tails:List Nat}{W:World}(C:World->Prop)(hC:C W)(h:∀V,C V->cN P ops Q R tails rest a V):cN P ops Q R tails rest a W:=h W hC
def HS(w:World)(s:aj)(gn tn hn:Nat)(e:Ending)(ab:World):Prop:=∃GA gc TA tc HA hc xs F1 F2 bK bP,e=.returned (.agg #[.slice GA gn gc,.slice TA tn tc,.slice HA hn hc,.int .i64 s.fault])/\qI ab s GA gn gc TA tn tc HA hn hc xs F1 F2 bK bP/\(∀b∈F1++(F2++(bK++bP)),w.heap.size<=b/\b<ab.heap.size)/\Ext w ab
namespace B2
theorem eQ(h:p:=by
 refine b3 ?_;generalize hX:World.setCell _ _ _=X;obtain⟨bz,bp,b5⟩:=bA (w:=W) [.slice aZ gn bc,.slice aV tn L,.slice none 0 0,.int .i64 s.fault] (by rfl) an bm I hX;have a8:=a5.lt;have a9:=n.lt;have aF:FK W.heap.size X s aZ gn bc aV tn L N 0 none 0 [] [] []:=by
  refine⟨⟨b4.1,b4.2.1,rfl,a5.ak λb O=>b5.block b (a8 b O) (H b O).2,n.ak λb O=>b5.block b (a9 b O) (y b O).2.1,⟨World.ownsRow_nil _ _ _ _,rfl⟩,⟨rfl,rfl⟩,?_⟩,bz,?_,λb O=>?_,I⟩
  .simp only[Ld];exact List.nodup_append.2 ⟨eW _ _ _,eW _ _ _,λa bx b O ay=>(y b O).2.2 (ay▸bx)⟩
  .simp only[Ld,KM];rintro(O|O)
   .exact(H _ O).2 rfl
   .exact(y _ O).2.1 rfl
  .simp only[Ld,KM] at O;have:=b5.size;rcases O with O|O
   .exact⟨(H b O).1,by have:=a8 b O;omega⟩
   .exact⟨(y b O).1,by have:=a9 b O;omega⟩
 obtain⟨a0,ai,af⟩:=(ag.2.1.ai bp).two;have aQ:=ah aF bp;clear d0 aL aM hX bz bp b5 a8 a9 aF bm an a5 n H y;go_wp2_with(fail);clear a0 ai af;go_loopw [21] (λcu wr=>∃(k:Nat) (be:Lp) (a3:Nat) (xs:List Value) (bK bP:List Nat),cu=.int .i64 k/\k<=hn/\FK W.heap.size wr s aZ gn bc aV tn L N k be a3 xs bK bP/\Ext W wr) (λcu _=>hn - (intOf cu).toNat)
 case atStart=>exact⟨0,none,0,[],[],[],rfl,ad,aQ.1,aQ.2⟩
 case round=>
  obtain⟨k,be,a3,xs,bK,bP,rfl,ap,hC,e⟩:=hrel;obtain⟨cL,rfl⟩:∃cL,cL=wr:=⟨wr,rfl⟩
  clear aQ;have bQ:=ah hC e;have ck:N<cL.heap.size:=hC.o.lt;by_cases ak:k<hn
  .obtain⟨b,o,fs,bh,m,c0,rfl,O,bv,bk,hm,bW⟩:=(ag.2.2.2.on e).h.lz ak;have b2:b<cL.heap.size:=O;have ce:m=fs.length:=by have:=bW.1;simpa using this.symm
   have g:=a4.f fs (KG bv);have aU:m<=1000000:=by have:=g.1;omega
   have bT:=bL bv bW ce g.2;clear hC e O bv bW ce g;go_upto_region 6 with(fail);generalize hV:World.alloc _ _=V;have bm:=aX hV;have b7:=aK hV;have cc:=ah bm (bT.2.1.on (Fr.ext bm));obtain⟨d0,aL,aM⟩:=b7.two;clear hV bm b7 bk;go_wp2_with(fail);clear d0 aL aM;go_loopw [6,28] (λbO b0 wr=>∃(j:Nat) (FA:Lp) (fc:Nat) (cN:List Value) (e4 bC:List Nat),bO=.slice FA j fc/\b0=.int .i64 j/\j<=m/\GR V wr fs j FA fc cN e4 bC) (λ_ b0 _=>m - (intOf b0).toNat)
   case atStart=>exact⟨0,none,0,[],[],[],rfl,rfl,ad,Ll,⟨World.ownsRow_nil _ _ _ _,rfl⟩,⟨rfl,rfl⟩,by simp,λb O=>by simp at O⟩
   case round=>
    obtain⟨j,FA,fc,cN,e4,bC,rfl,rfl,bi,hI⟩:=hrel;have cq:=ae hI;by_cases dq:j<m
    .obtain⟨ch,c5,f,IA,i,ic,S,l,lc,rfl,cw,G,c0,c1,c2,c3,aN,a2,aR,cd⟩:=(cc.2.on (Fr.ext hI.ext)).pM dq;have bf:ch<wr.heap.size:=cw;have cg:i=f.ints.length:=by have:=aR.1;simpa using this.symm
     have bI:l=f.au.length:=by have:=cd.1;simpa using this.symm
     have bd:=bT.2.2.2 f (KG G);have b6:i<=100000:=ad;have bj:l<=100000:=ad;have bU:=aD G cg bI;have au:=ah aR cd;clear hI cw G cg bI bd aR cd aN a2;go_upto_region 9 with(fail);generalize hU:World.alloc _ _=U;have cl:=aX hU;have cY:=aK hU;have cz:=aD (cq.ai cl) (au.1.on (Fr.ext cl)) (au.2.on (Fr.ext cl));obtain⟨d0,aL,aM⟩:=cY.two;clear hU cl cY c0 c1 c2 c3 au;refine eK (λ_=>False) [(0,3),(1,3),(2,0),(3,3),(4,0),(5,3),(6,0),(8,3),(9,0),(7,1),(10,1),(11,3),(12,2),(13,2),(14,3)] ?_
     iterate 2 refine pf ?_
     refine ph ?_;refine pf ?_;refine ph ?_;refine pf ?_;refine ph ?_;refine pf ?_;refine ph ?_;refine aI rfl (λK hK=>?_);go_simp;refine(Sl.lQ (Sl.on cz.2.1 (Fr.ext (Fr.refl _ U).drew)) ad).mono ?_;rintro r aS ⟨F,cp,rfl,E,aJ,ar⟩;have H1:=aD E aJ ar;refine dz hK (ar) ?_;clear hK K;clear E aJ ar;refine aI rfl (λK hK=>?_);go_simp;refine(Sl.lQ (Sl.on cz.2.2 (Fr.ext (Fr.aF H1.2.2))) ad).mono ?_;rintro r aT ⟨bZ,cK,rfl,al,az,bw⟩;have bJ:=aD al az bw;refine dz hK (bw) ?_;clear hK K;clear al az bw;have ab:=((cz.1.o.ai (Fr.aF H1.2.2)).ai bJ.2.2)
     refine pf ?_;refine ax rfl (λK hK=>?_);go_simp;refine dO hK ?_;clear hK K;refine ax rfl (λK hK=>?_);rw[if_pos (by rfl)];refine xV xk (.tmp 32) (.tmp 44) rfl ab (cs:=#[.int .i64 f.proc,.int .i64 f.pc,.slice F i cp,.slice bZ l cK]) rfl rfl rfl (by simp[Value.oneCell']) ad ad ?_;intro cR co bX ca g2 cT;refine dO hK ?_;clear hK K;refine pf ?_;refine aE ?_;have aW:=ae (cz.1.step bU.1 (Fr.aF H1.2.2) H1.1 (λx hx=>H1.2.1 x hx) bU.2.1 bJ.2.2 bJ.1 bJ.2.1 bU.2.2 ca g2 cT);clear ca g2 cT ab d0 aL aM;go_wp2_with(fail);go_roundw
     case rel=>exact⟨j+1,cR,co,_,_,_,rfl,by go_num,ad,aW.o⟩
     case measure=>exact aG
    .obtain rfl:j=m:=ad;have u:Ext cL wr:=cc.1.trans hI.ext;have z:=ae (bQ.1.ai u);have bq:=ae u;obtain⟨d0,aL,aM⟩:=z.o.o.two;have bS:=z.st.h;have eN:N∉bK:=λh=>z.ne (by simp[h]);clear hI u;go_wp2_with(at_builtin;refine ob sr rfl (.tmp 48) (.tmp 51) rfl bS (cs:=#[.slice FA j fc]) rfl rfl rfl (by simp[Value.oneCell']) ad ad ?_;intro cH ci bX ca g2 cT;have bD:=z.o.o.on g2 eN;have cC:=bL ca g2 cT bD;clear ca g2 cT d0 aL aM;obtain⟨e0,a6,aP⟩:=bD.two;clear bD);go_roundw
     case rel=>
      have Z:=cq.f;rw[KL (aC bT.2.2.1)] at Z;have br:=cq.lo;have dk:=cc.1.size;exact⟨k+1,cH,ci,_,_,_,by go_num,ad,bQ.1.step bT.1 bq.o cq.o.o Z bT.2.2.1 cq.nd (λb O=>⟨by have:=br b O;omega,(br b O).2⟩) cC.1 cC.2.1 cC.2.2.1 rfl,
       Fr.low (M:=λb=>b∈bK\/b=N) (Fr.trans (Fr.mono (bQ.2.trans bq.o) λ_ h=>h.elim) (Fr.setCell (Fr.mono cC.2.1 λ_ h=>.inl h) (.inl (.inr rfl)) _)) λb O=>by
        rcases O with O|O
        .exact(bQ.1.lo b (by simp[O])).1
        .rw[O];exact bQ.1.go⟩
     case measure=>exact aG
  .obtain rfl:k=hn:=ad;obtain⟨d0,aL,aM⟩:=hC.o.two;have bg:=ag.2.2.1.ai e;obtain⟨bl,aA,aO⟩:=bg.two;have J:=ag.1.trans e;have b1:=ah bg J;clear hC e bg J;go_wp2_with(fail);generalize ct:World.setCell _ _ _=Y;obtain⟨bE,bG,bH⟩:=bA (w:=w) [.slice aZ gn bc,.slice aV tn L,.slice be k a3,.int .i64 s.fault] (by rfl) b1.1 b1.2 ad ct;have bB:=ah bG bH;clear ct bG bH d0 aL aM bl aA aO;obtain⟨bl,aA,aO⟩:=bE.two;refine Lk (v:=.agg #[.slice aZ gn bc,.slice aV tn L,.slice be k a3,.int .i64 s.fault]) (by simp[results,Tryz.results29,go_sem,bl]) rfl ?_;have cy:=bQ.1.st;rw[KL (aC b4.2.2)] at cy;have br:=bQ.1.lo;have cZ:=bb.o;refine⟨aZ,bc,aV,L,be,a3,xs,_,_,bK,bP,rfl,cy.ak λb O=>bB.2.block b (br b O).2 (aC (br b O)),λb O=>?_,bB.1⟩;have:=br b O;have:=bB.2.size;omega
 ):p:=h
end B2
open B2 in
theorem fH(s:aj)(GA TA HA:Lp)(gn gc tn tc hn hc:Nat)(w:World)(h:lD w (av w) s GA gn TA tn HA hn)(a1:Small s) :
  Calls prog 29 #[.agg #[.slice GA gn gc,.slice TA tn tc,.slice HA hn hc,.int .i64 s.fault]] w (HS w s gn tn hn):=by
 have ry:gn=s.globals.length:=by have:=h.g.1;simpa using this.symm
 have ti:tn=s.table.length:=by have:=h.t.1;simpa using this.symm
 have qK:hn=s.threads.length:=by have:=h.h.1;simpa using this.symm
 have cI:gn<=100000:=by have:=a1.g;omega
 have cD:tn<=5000:=by have:=a1.t;omega
 have dm:hn<=1000:=by have:=a1.h;omega
 have b4:=aD ry ti qK;obtain⟨a4,a7⟩:=aH a1 h;clear h a1 ry ti qK;go_enter func29,ntmps29;go_upto_region 1 with(fail);generalize ba:World.alloc _ _=W;have aw:=iN ba;have cE:=gC ba;have bs:=ga ba;have cZ:W.heap.size=w.heap.size+2:=by rw[<-ba];simp
 have ag:=bL aw cE bs (a7.on aw);obtain⟨a0,ai,af⟩:=cE.two;have bb:=ae cZ;clear ba aw cE bs cZ;refine qY (λ_=>False) [10] (.free 0 (.held 1 (.free 3 (.held 4 (.free 6 (.held 7 (.pick [2,9] (λi=>bif i == 2 then .pick [5,9] (λi=>bif i == 5 then .free 8 (.pick [9] (λ_=>.pick [10] (λ_=>.stop))) else .pick [5] (λ_=>.free 8 (.pick [10] (λ_=>.stop)))) else .pick [2] (λ_=>.pick [5] (λ_=>.free 8 (.pick [10] (λ_=>.stop)))))))))))) ?_;refine tf ?_;refine th ?_;refine tf ?_;refine th ?_;refine tf ?_;refine th ?_;refine wL (P:=?P1) (ops:=?o1) (Q:=?q1) (R:=?r1) (tails:=?t1) (rest:=.pick [10] (λ_=>.stop)) (aa:=?aa) (C:=IM W s gn tn) (λkey=>?main) ?key
 case main=>
  refine aY ?_ ?_
  ·
   refine aB rfl (λK hK=>?_) rfl;go_simp;refine(Sl.lQ (ag.2.2.2.on (Fr.refl _ W).drew).g ad).mono ?_;rintro r aS ⟨aZ,bc,rfl,E,aJ,ar⟩;have s1:=ar.size;have q1:W.drew.heap.size=W.heap.size:=rfl;refine dz hK (ar) ?_;clear hK K;refine aY ?_ ?_
   ·
    refine aB rfl (λK hK=>?_) rfl;go_simp;refine(Sl.vC (ag.2.2.2.on (Fr.aF ar)).t ad).mono ?_;rintro r aT ⟨aV,L,rfl,al,az,bw⟩;have s2:=bw.size;refine dz hK (bw) ?_;clear hK K;refine tf ?_;refine ao ?_;refine dP ?_;have hC:IM W s gn tn (aT.heap.size) aZ bc aV L (aT.alloc (.cells #[.slice none 0 0,.slice none 0 0,.slice none 0 0,.int .i64 0] 40)):=by
     refine⟨((Fr.aF ar).trans bw).alloc _,Lm,ad,(E.ai bw).ai (Ll.alloc _),al.ai (Ll.alloc _),λb O=>?_,λb O=>⟨?_,?_,λac=>?_⟩⟩
     .have:=aJ b O;omega
     .have:=az b O;omega
     .have:=az b O;omega
     .have:=az b O;have:=aJ b ac;omega
    generalize aT.heap.size=c6 at hC ⊢;exact key c6 aZ bc aV L _ hC
   ·
    refine dP ?_;refine Hr (λV=>Ext aS V/\aq V aS.heap.size 40 #[.slice none 0 0,.slice none 0 0,.slice none 0 0,.int .i64 0]/\aS.heap.size<V.heap.size) ⟨Ll.alloc _,Lm,(Lm).lt⟩ (λV hV=>?_);refine ao ?_;refine aB rfl (λK hK=>?_) rfl;go_simp;refine(Sl.vC ((ag.2.2.2.on (Fr.aF ar)).on hV.1).t ad).mono ?_;rintro r aT ⟨aV,L,rfl,al,az,bw⟩;have s2:=bw.size;have T:=hV.1.size;refine dz hK (bw) ?_;clear hK K;refine tf ?_;have hC:IM W s gn tn (aS.heap.size) aZ bc aV L aT:=by
     refine⟨((Fr.aF ar).trans hV.1).trans bw,hV.2.1.ai bw,ad,(E.ai hV.1).ai bw,al,λb O=>?_,λb O=>⟨?_,?_,λac=>?_⟩⟩
     .have:=aJ b O;omega
     .have:=az b O;omega
     .have:=az b O;have:=hV.2.2;omega
     .have:=az b O;have:=aJ b ac;omega
    generalize aS.heap.size=c6 at hC ⊢;exact key c6 aZ bc aV L _ hC
  ·
   refine dP ?_;refine Hr (λV=>Ext W V/\aq V W.heap.size 40 #[.slice none 0 0,.slice none 0 0,.slice none 0 0,.int .i64 0]/\W.heap.size<V.heap.size) ⟨(Ll.drew).alloc _,aq.new W.drew _ _,(aq.new W.drew _ _).lt⟩ (λV hV=>?_);refine ao ?_;refine aB rfl (λK hK=>?_) rfl;go_simp;refine(Sl.lQ (ag.2.2.2.on hV.1).g ad).mono ?_;rintro r aS ⟨aZ,bc,rfl,E,aJ,ar⟩;have s1:=ar.size;have am:=hV.1.size;refine dz hK (ar) ?_;clear hK K;refine ao ?_;refine aB rfl (λK hK=>?_) rfl;go_simp;refine(Sl.vC ((ag.2.2.2.on hV.1).on ar).t ad).mono ?_;rintro r aT ⟨aV,L,rfl,al,az,bw⟩;have s2:=bw.size;refine dz hK (bw) ?_;clear hK K;refine tf ?_;have hC:IM W s gn tn (W.heap.size) aZ bc aV L aT:=by
    refine⟨(hV.1.trans ar).trans bw,(hV.2.1.ai ar).ai bw,ad,E.ai bw,al,λb O=>?_,λb O=>⟨?_,?_,λac=>?_⟩⟩
    .have:=aJ b O;have:=hV.2.2;omega
    .have:=az b O;omega
    .have:=az b O;have:=hV.2.2;omega
    .have:=az b O;have:=aJ b ac;omega
   generalize W.heap.size=c6 at hC ⊢;exact key c6 aZ bc aV L _ hC
 intro N aZ bc aV L V ⟨bm,an,I,a5,n,H,y⟩;obtain⟨d0,aL,aM⟩:=an.two;clear a0 ai af;exact fj
def yU(w:World)(op num:Int)(g1:ByteArray)(l:List VE)(e:Ending)(ab:World):Prop:=∃A n c,e=.returned (.agg #[.int .i64 op,.int .i64 num,.string g1,.slice A n c])/\n<=c/\Sl ab (fresh w ab) A n (l.map bk)/\Ext w ab
def w0(x:VE):Prop:=∀(w:World) (A:Lp) (n c:Nat),Sl w (av w) A n (x.args.map bk)->Calls prog 53 #[.agg #[.int .i64 x.a9,.int .i64 x.numOf,.string x.bu,.slice A n c]] w (yU w x.a9 x.numOf x.bu x.args)
namespace B3
theorem dB(h:p:=by
 generalize hX:World.setCell aT _ _=Y;have bH:=cJ hX;have r:=ae (show Ext w Y/\aq Y w.heap.size 53 #[.int .i64 op,.int .i64 num,.string g1,.slice cC (k+1) c3]/\aq Y (w.heap.size+1) 53 #[.int .i64 0,.int .i64 0,.string ⟨#[]⟩,.slice none 0 0]/\Gr (λb=>w.heap.size+2<=b) (w.heap.size+2) 53 4 Y cC (k+1) c3 ((l.take (k+1)).map bk) from
  ⟨Fr.low (M:=λb=>b=w.heap.size) (Fr.trans (Fr.mono bJ.1 λ_ h=>h.elim) bH) λb O=>ad,by rw[<-hX];exact bJ.2.1.aM 3 _,bJ.2.2.1.on bH ad,by
   rw[aZ bB.1,KK];exact bJ.2.2.2.c8 bH λb O _=>⟨ad,ad⟩⟩)
 clear hX bH a0 ai af bD;go_wp2;go_roundw
 case rel=>exact⟨k+1,cC,c3,by go_num,ad,r.o⟩
 case measure=>exact aG
 ):p:=h
theorem sk(h:p:=by
 have bB:=ah bb cR;have bQ:=ae (cq.o y (KG bb));clear bb Q cR Z bj O aw aR cA hG;go_upto_region 6 with(fail);generalize hU:World.alloc _ _=U;have cl:=aX hU;have cY:=aK hU;have cW:=cl.size;have bs:=aQ.2.1.ai cl;have cz:=cK (aQ.1.trans cl) bs (aQ.2.2.1.ai cl) (aQ.2.2.2.ai cl) (bB.2.on (Fr.ext cl));obtain⟨d0,aL,aM⟩:=cY.two;obtain⟨a0,ai,af⟩:=bs.two;clear hU cl cY bs c0 c1 c2 c3 aV;refine eK (λ_=>False) [(0,3),(1,0),(2,0),(3,1),(4,1),(5,2),(6,3),(7,2)] ?_;refine pf ?_
 iterate 2 refine ph ?_
 refine aI rfl (λK hK=>?_);go_simp;refine(bQ.o _ _ _ _ (cz.2.2.2.2.on (Fr.ext (Fr.refl _ U).drew))).mono ?_;rintro e aS ⟨cU,b8,zc,rfl,bo,cQ,ar⟩;have H1:=aD cQ bo ar;refine dz hK (ar) ?_;clear hK K;have aN:Ext U aS:=Fr.aF ar;have cD:=cz.2.2.2.1.ai aN;have cp:=aN.size;have aB:∀b,(Value.slice I k aJ).ownBlock=some b->b<U.heap.size:=λb O=>(cz.2.2.2.1.lt O).2;have hd:(bk y).rep aS (lu (λb=>w.heap.size+2<=b) aS (.slice I k aJ)) (#[.int .i64 y.a9,.int .i64 y.numOf,.string y.bu,.slice cU b8 zc]:Array Value).toList:=
  a1.2 ⟨cU,b8,zc,rfl,bo,cQ.mono λb O=>⟨by have:=O.1;have:U.drew.heap.size=U.heap.size:=rfl;omega,O.2,λh=>by have:=aB b h;have:=O.1;have:U.drew.heap.size=U.heap.size:=rfl;omega⟩⟩
 have a6:=ah cD hd;clear cQ bo ar cD hd aB;refine qV ?_;refine ax rfl (λK hK=>?_);rw[if_pos (by rfl)];refine qD po (.tmp 16) (.tmp 19) rfl a6.1 a6.2 rfl rfl rfl ad ad ad ?_;intro cC c3 aT ca g2 cT c8;have br:∀b,(Value.slice I k aJ).ownBlock=some b->w.heap.size+2<=b:=λb O=>(a6.1.lt O).1;have bD:=(cz.2.1.ai aN).on g2 (λh=>by have:=br _ h;omega);have cG:=(cz.2.2.1.ai aN).on g2 (λh=>by have:=br _ h;omega);have a7:Ext w aT:=Fr.low (M:=λb=>(Value.slice I k aJ).ownBlock=some b) (Fr.trans (Fr.mono (cz.1.trans aN) λ_ h=>h.elim) g2) λb O=>by have:=br b O;omega
 have bJ:=bL a7 bD cG ca;clear ca g2 cT c8 br cG a7 a0 ai af d0 aL aM;obtain⟨a0,ai,af⟩:=bD.two;exact sq
 ):p:=h
end B3
open B3 in
theorem fL(op num:Int)(g1:ByteArray)(l:List VE)(ao:∀y∈l,w0 y)(hl:l.length<=2)(w:World)(A:Lp)(n c:Nat)(h:Sl w (av w) A n (l.map bk)) :
  Calls prog 53 #[.agg #[.int .i64 op,.int .i64 num,.string g1,.slice A n c]] w (yU w op num g1 l):=by
 have hn:n<=2:=by have:=h.1;simp at this;omega
 have f:=ae (show l.length=n by have:=h.1;simpa using this);obtain⟨H,cq⟩:=aH h ao;clear h ao hl;go_enter func53,ntmps53;go_upto_region 1 with(fail);generalize ba:World.alloc _ _=W;have m:=iN ba;have cb:=gC ba;have i:=ga ba;obtain⟨a0,ai,af⟩:=cb.two;clear ba;go_upto_region 3 with(fail);generalize hX:World.setCell _ _ _=X;have J:=cJ hX;have aw:Ext w X:=Fr.low (M:=λb=>b=w.heap.size) (Fr.trans (Fr.mono m λ_ h=>h.elim) J) λb O=>ad;have aR:aq X w.heap.size 53 #[.int .i64 op,.int .i64 num,.string g1,.slice none 0 0]:=hX▸cb.aM 3 _;have cA:aq X (w.heap.size+1) 53 #[.int .i64 0,.int .i64 0,.string ⟨#[]⟩,.slice none 0 0]:=i.on J ad;clear J m cb i a0 ai af;have aQ:=aD aw aR cA;clear hX aw aR cA;go_wp2_with(fail);go_loopw [11] (λcu wr=>∃(k:Nat) (I:Lp) (aJ:Nat),cu=.int .i64 k/\k<=n/\Ext w wr/\aq wr w.heap.size 53 #[.int .i64 op,.int .i64 num,.string g1,.slice I k aJ]/\aq wr (w.heap.size+1) 53 #[.int .i64 0,.int .i64 0,.string ⟨#[]⟩,.slice none 0 0]/\Gr (λb=>w.heap.size+2<=b) (w.heap.size+2) 53 4 wr I k aJ ((l.take k).map bk)) (λcu _=>n - (intOf cu).toNat)
 case atStart=>exact⟨0,none,0,rfl,ad,aQ.1,aQ.2.1,aQ.2.2,Gr.nil _ _ _ _ _⟩
 case round=>
  obtain⟨k,I,aJ,rfl,ap,aw,aR,cA,hG⟩:=hrel;clear aQ;have aQ:=bL aw aR cA hG;have bW:=cA.lt;by_cases ak:k<n
  .obtain⟨b,o,y,cs,rfl,O,bb,Q,bj,Z⟩:=(H.on (Fr.ext aw)).g0 c7 ak;exact sj
  .obtain rfl:k=n:=ad;obtain⟨a0,ai,af⟩:=aR.two;obtain⟨bl,aA,aO⟩:=cA.two;clear aw aR cA hG;go_wp2_with(fail);generalize hX:World.setCell _ _ _=Y;obtain⟨bE,bG,bH⟩:=bA (w:=w) [.int .i64 op,.int .i64 num,.string g1,.slice I k aJ] (by rfl) aQ.2.2.1 aQ.1 ad hX;have bB:=ah bG bH;clear hX bG bH a0 ai af bl aA aO;obtain⟨bl,aA,aO⟩:=bE.two;refine Lk (v:=.agg #[.int .i64 op,.int .i64 num,.string g1,.slice I k aJ]) (by simp[results,Tryz.results53,go_sem,bl]) rfl ?_;have a2:=aQ.2.2.2.c8 bB.2 λb O _=>⟨ad,ad⟩
   rw[KL (aC f.o)] at a2;exact⟨I,k,aJ,rfl,a2.cap.1,a2.sl (λb ak O=>⟨ad,ak⟩) (λb ak O=>⟨ad,ak⟩),bB.1⟩
theorem jB:∀x:VE,w0 x
 | .num n=>λw A m c h=>fL 1 n ⟨#[]⟩ [] (by simp) (by simp) w A m c h
 | .g1 s=>λw A m c h=>fL 2 0 s [] (by simp) (by simp) w A m c h
 | .loc k=>λw A m c h=>fL 18 k ⟨#[]⟩ [] (by simp) (by simp) w A m c h
 | .iB k=>λw A m c h=>fL 19 k ⟨#[]⟩ [] (by simp) (by simp) w A m c h
 | .un op x=>λw A m c h=>fL op 0 ⟨#[]⟩ [x] (λy bb=>by rw[Lf.1 bb];exact jB x) (by simp) w A m c h
 | .bin op x y=>λw A m c h=>fL op 0 ⟨#[]⟩ [x,y] (λz bt=>by
   simp only[KT,List.not_mem_nil,or_false] at bt;rcases bt with bt|bt
   .rw[bt];exact jB x
   .rw[bt];exact jB y) (by simp) w A m c h
theorem yo(o:Option VE)(w:World)(eo en:Int)(es:ByteArray)(A:Lp)(n c:Nat)(h:(oj o).rep w (av w) [.int .i64 eo,.int .i64 en,.string es,.slice A n c]) :
  Calls prog 53 #[.agg #[.int .i64 eo,.int .i64 en,.string es,.slice A n c]] w λe ab=>∃I aP aJ,e=.returned (.agg #[.int .i64 eo,.int .i64 en,.string es,.slice I aP aJ])/\(oj o).rep ab (fresh w ab) [.int .i64 eo,.int .i64 en,.string es,.slice I aP aJ]/\Ext w ab:=by
 cases o with
 | none=>
  obtain⟨A2,c2,e⟩:=fh.1 h;simp only[List.cons.injEq,and_true] at e;obtain⟨e1,e2,e3,b0⟩:=e;injection e1 with _ e1;injection e2 with _ e2;injection e3 with e3;injection b0 with b0 ct a7;subst e1 e2 e3 b0 ct a7;refine(fL 0 0 ⟨#[]⟩ [] (by simp) (by simp) w _ 0 c (Sl.bN _)).mono ?_;rintro e ab ⟨I,aP,aJ,rfl,ac,au,aU⟩;obtain rfl:aP=0:=au.1.symm
  exact⟨I,0,aJ,rfl,fh.2 ⟨I,aJ,rfl⟩,aU⟩
 | some x=>
  obtain⟨A2,n2,c2,e,hc,hs⟩:=a1.1 h;simp only[List.cons.injEq,and_true] at e;obtain⟨e1,e2,e3,b0⟩:=e;injection e1 with _ e1;injection e2 with _ e2;injection e3 with e3;injection b0 with b0 ct a7;subst e1 e2 e3 b0 ct a7;refine(jB x w _ _ _ hs).mono ?_;rintro e ab ⟨I,aP,aJ,rfl,ac,au,aU⟩;exact⟨I,aP,aJ,rfl,a1.2 ⟨I,aP,aJ,rfl,ac,au⟩,aU⟩
def GS(w:World)(l:List VE)(e:Ending)(ab:World):Prop:=∃A n c,e=.returned (.slice A n c)/\n<=c/\Sl ab (fresh w ab) A n (l.map bk)/\Ext w ab
namespace B4
theorem sk(h:p:=by
 have bB:=ah bb cR;clear bb Q cR Z bj O aw hG;go_upto_region 5 with(fail);generalize hU:World.alloc _ _=U;have cl:=aX hU;have cY:=aK hU;have cW:=cl.size;have cz:=aD (aQ.1.trans cl) (aQ.2.ai cl) (bB.2.on (Fr.ext cl));obtain⟨d0,aL,aM⟩:=cY.two;clear hU cl cY c0 c1 c2 c3 aV;go_wp2_with(fail);refine(jB y _ _ _ _ cz.2.2).mono ?_;rintro e aS ⟨cU,b8,zc,rfl,bo,cQ,aN⟩;have cD:=cz.2.1.ai aN;have cp:=aN.size;have aB:∀b,(Value.slice I k aJ).ownBlock=some b->b<U.heap.size:=λb O=>(cz.2.1.lt O).2;have hd:(bk y).rep aS (lu (λb=>w.heap.size<=b) aS (.slice I k aJ)) (#[.int .i64 y.a9,.int .i64 y.numOf,.string y.bu,.slice cU b8 zc]:Array Value).toList:=
  a1.2 ⟨cU,b8,zc,rfl,bo,cQ.mono λb O=>⟨by have:=O.1;omega,O.2,λh=>by have:=aB b h;have:=O.1;omega⟩⟩
 have H1:=aD (cz.1.trans aN) cD hd;clear cQ bo aN cD hd aB d0 aL aM;go_wp2_with(at_builtin;refine bP po rfl (.tmp 12) (.tmp 15) rfl H1.2.1 H1.2.2 rfl rfl rfl ad ad ad ?_;intro cC c3 aT ca g2 cT c8;have b4:=ah ca g2;clear ca g2 cT c8);have br:∀b,(Value.slice I k aJ).ownBlock=some b->w.heap.size<=b:=λb O=>(H1.2.1.lt O).1;have a3:Ext w aT:=Fr.low (M:=λb=>(Value.slice I k aJ).ownBlock=some b) (Fr.trans (Fr.mono H1.1 λ_ h=>h.elim) b4.2) λb O=>br b O;have a4:=ae a3;clear br a3;go_roundw
 case rel=>exact⟨k+1,cC,c3,rfl,by go_num,ad,a4.o,by rw[aZ bB.1,KK];exact b4.1⟩
 case measure=>exact aG
 ):p:=h
end B4
open B4 in
theorem pU(l:List VE)(hl:l.length<=100000)(w:World)(A:Lp)(n c:Nat)(h:Sl w (av w) A n (l.map bk)) :
  Calls prog 55 #[.slice A n c] w (GS w l):=by
 have bH:l.length=n:=by have:=h.1;simpa using this
 have hn:n<=100000:=ad;obtain⟨f,H⟩:=aH bH h;clear h hl bH;go_enter func55,ntmps55;go_wp2_with(fail);go_loopw [3,8] (λsv cu wr=>∃(k:Nat) (I:Lp) (aJ:Nat),sv=.slice I k aJ/\cu=.int .i64 k/\k<=n/\Ext w wr/\Gr (λb=>w.heap.size<=b) w.heap.size 53 4 wr I k aJ ((l.take k).map bk)) (λ_ cu _=>n - (intOf cu).toNat)
 case atStart=>exact⟨0,none,0,rfl,rfl,ad,Ll,Gr.nil _ _ _ _ _⟩
 case round=>
  obtain⟨k,I,aJ,rfl,rfl,ap,aw,hG⟩:=hrel;have aQ:=ah aw hG;have m0:=aw.size;by_cases ak:k<n
  .obtain⟨b,o,y,cs,rfl,O,bb,Q,bj,Z⟩:=(H.on (Fr.ext aw)).g0 c7 ak;exact sj
  .obtain rfl:k=n:=ad;clear aw hG;go_wp2_with(fail);go_ret;have a2:=aQ.2;rw[KL (aC f.o)] at a2;exact⟨I,k,aJ,rfl,a2.cap.1,a2.sl (λb ak O=>⟨O,ak⟩) (λb ak O=>⟨O,ak⟩),aQ.1⟩
theorem pW(p:bQ)(w:World)(A:Lp)(n c:Nat)(h:(di p).rep w (av w) [.bool p.param,.int .i64 p.index,.slice A n c]) :
  Calls prog 54 #[.agg #[.bool p.param,.int .i64 p.index,.slice A n c]] w λe ab=>∃I aP aJ,e=.returned (.agg #[.bool p.param,.int .i64 p.index,.slice I aP aJ])/\(di p).rep ab (fresh w ab) [.bool p.param,.int .i64 p.index,.slice I aP aJ]/\Ext w ab:=by
 obtain⟨A2,n2,c2,e,hc,hs⟩:=dT.1 h;simp only[List.cons.injEq,and_true,true_and] at e;injection e with b0 ct a7;subst b0 ct a7;have H:=ae hs;have hi:p.at_.toList.length<=100000:=by cases p.at_<;>simp
 clear h hs hc;generalize j:p.param=pb;generalize k:p.index=pi;have cn:=ah j k;clear j k;go_enter func54,ntmps54;go_upto_region 1 with(fail);generalize ba:World.alloc _ _=W;have m:=iN ba;have cb:=gC ba;have i:=ga ba;have ag:=bL m cb i (H.on (Fr.ext m));have cZ:=i.lt;obtain⟨a0,ai,af⟩:=cb.two;clear ba m cb i;go_wp2_with(fail);refine(pU _ hi W _ _ _ ag.2.2.2).mono ?_;rintro e aS ⟨cU,b8,zc,rfl,bo,cQ,aN⟩;have cp:=aN.size;have cE:=ag.2.1.ai aN;have f:=ag.2.2.1.ai aN;have H1:=cK (ag.1.trans aN) bo cQ cE f;clear a0 ai af;obtain⟨a0,ai,af⟩:=cE.two;clear cE f aN bo cQ;go_upto_region 2 with(fail);generalize hX:World.setCell _ _ _=X;have J:=cJ hX;have aw:Ext w X:=Fr.low (M:=λb=>b=w.heap.size) (Fr.trans (Fr.mono H1.1 λ_ h=>h.elim) J) λb O=>ad;have aR:aq X w.heap.size 55 #[.bool pb,.int .i64 pi,.slice cU b8 zc]:=hX▸H1.2.2.2.1.aM 2 _;have cA:aq X (w.heap.size+1) 55 #[.bool false,.int .i64 0,.slice none 0 0]:=H1.2.2.2.2.on J ad;have aQ:=aD aw J cA;clear hX a0 ai af;obtain⟨a0,ai,af⟩:=aR.two;obtain⟨bl,aA,aO⟩:=cA.two;clear J aw aR cA;go_wp2_with(fail);generalize hX:World.setCell _ _ _=Y;obtain⟨bE,bG,bH⟩:=bA (w:=w) [.bool pb,.int .i64 pi,.slice cU b8 zc] (by rfl) aQ.2.2 aQ.1 ad hX;have bB:=ah bG bH;clear hX bG bH a0 ai af bl aA aO;obtain⟨bl,aA,aO⟩:=bE.two;refine Lk (v:=.agg #[.bool pb,.int .i64 pi,.slice cU b8 zc]) (by simp[results,Tryz.results54,go_sem,bl]) rfl ?_;have ao:w.heap.size+1<aS.heap.size:=ad;refine⟨cU,b8,zc,rfl,?_,bB.1⟩;rw[<-cn.1,<-cn.2]
 refine dT.2 ⟨cU,b8,zc,rfl,H1.2.1,(H1.2.2.1.ak λb O=>(bB.2.block b (lK O.2 aQ.2.1.size) (aC O.1)).trans (aQ.2.1.block b O.2 (aC O.1))).mono λb O=>⟨by have:=O.1;omega,by have:=O.2;have:=aQ.2.1.size;have:=bB.2.size;omega⟩⟩
end Go.Proofs.YtglbpimocmhojaaGreat

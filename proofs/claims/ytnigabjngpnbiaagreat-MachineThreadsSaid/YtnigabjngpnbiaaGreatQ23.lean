/- Part 23 of the proof. No condition of its own. -/
import Derived.Test.YtnigabjngpnbiaaGreatQ22
namespace Go.Proofs.YtnigabjngpnbiaaGreat
open Go.RowKit Go.Proofs.Tryz
set_option maxRecDepth 1000000
set_option maxHeartbeats 25600000
set_option linter.unusedVariables false
variable{a:Act}{ops:Array Oper}{Q:Exit->Act->World->Prop}{fs:List ai}{bytes size:Nat}{o:Oper}{P:Program}{p:Prop}{e t:TypeId}{z:Value}{r:World}{R f:ai}
theorem wO{K:Act->World->Prop}(bu:cA P t e z size bytes)(s x:Operand)
  (bb:o.op=.call {callee:=.builtin .append,args:=#[s,x],argTypes:=#[t,t]})
  {A:Kj} {n c g:Nat} {xs:List Value} {F:List Nat} (h0:Own r e size A n c xs F) {cs:Array Value} {f:TypeId} (aK:au r g f cs)
  (hs:a.eval s=.slice A n c) (hx:a.eval x=.slice (some ⟨g,0,none⟩) 1 1) (aB:cs.size=size) (ac:∀u∈cs.toList,u.oneCell'=true)
  (y:(n+1)*bytes<=140737488355328) (G:n+1<=140737488355328)
  (h:∀a1 aW J,Own J e size a1 (n+1) aW (xs++cs.toList) (bd a1 (n+1) aW)->Fr (λb=>b∈F) r J->(∀b∈bd a1 (n+1) aW,b∈F\/(r.heap.size<=b/\b<J.heap.size))->K (a.put o.dst (.slice a1 (n+1) aW)) J):o.wp P a r K Q:=by
 have ay:Src r size (some ⟨g,0,none⟩) 1 cs.toList:=⟨by simpa using aB,ac,λ_=>⟨g,0,rfl,λj u be=>by
  rw[J0,aK.cell];simpa using be⟩⟩
 refine ka _ bu s x bb 0 _ n xs hs h0.row _ 1 1 cs.toList hx ay y G (J4 _) (λh=>nomatch h) λH J bE cB aI=>?_;obtain⟨a1,aW,rfl,hc,_⟩:=cj bE;refine h a1 aW J ⟨bE,rfl⟩ (Kf.grown cB λg aS=>.inl (by rw[h0.eq];simp[aS])) λb O=>?_;have aN:(Value.slice a1 (n+1) aW).ownBlock=some b:=by simpa using O
 rcases aI with aI|aI
 .rw[aI] at aN;exact .inl (by rw[h0.eq];simp[aN])
 .have:=(bE.lt b aN).2;rw[aI] at aN;injection aN with aN;right;omega
theorem k8{R:World->World->Prop}{rest:List (Nat×Nat)}{W:World}(C:World->Prop)(hC:C W)(h:∀V,C V->b3 P ops Q R rest a V):b3 P ops Q R rest a W:=h W hC
theorem sK{s:ah}{t:Int}{U:ai}(h:s.threads[t.toNat]?=some (fs++[f])):oR (bg s t U) t R={s with threads:=(s.threads.set t.toNat (fs++[U])).set t.toNat (fs++[U]++[R])}:=by
 rw[dG h];unfold oR;have aq:=(List.getElem?_eq_some_iff.1 h).1;rw[kr (x:=fs++[U]) (by simp[aq])]
theorem l3{rest:List Oper}(bu:cA P t e z size bytes)(i:o.guard=none)(s x:Operand)
  (bb:o.op=.call {callee:=.builtin .append,args:=#[s,x],argTypes:=#[t,t]})
  {A:Kj} {n c g:Nat} {xs:List Value} {F:List Nat} (h0:Own r e size A n c xs F) {cs:Array Value}
  (hs:a.eval s=.slice A n c) (hx:a.eval x=.slice (some ⟨g,0,none⟩) 1 1) (aS:g=r.heap.size) (aB:cs.size=size) (ac:∀u∈cs.toList,u.oneCell'=true)
  (y:(n+1)*bytes<=140737488355328) (G:n+1<=140737488355328)
  (h:∀a1 aW J,Own J e size a1 (n+1) aW (xs++cs.toList) (bd a1 (n+1) aW)->Fr (λb=>b∈F) r J->(∀b∈bd a1 (n+1) aW,b∈F\/(r.heap.size<=b/\b<J.heap.size))->wpList P ops Q rest (a.put o.dst (.slice a1 (n+1) aW)) J):wpList P ops Q (o::rest) a (r.alloc (.cells cs e)):=by
 subst aS;exact m2 bu i s x bb h0 hs hx aB ac y G h
section
variable {B:Nat} {w J:World} {s:ah} {N:Nat} {q:SV} {xs:List Value} {F1 F2 bj bI:List Nat}
theorem jC.DH{α:Type}{E:World->α->List Value->List Nat->Prop}{w:World}:∀{l:List α} {xs:List Value} {F:List Nat},jC E w l xs F->∀{k:Nat} {a:α},l[k]?=some a->
  ∃Z x U F1 f F2,xs=Z++(x++U)/\F=F1++(f++F2)/\jC E w (l.take k) Z F1/\E w a x f/\jC E w (l.drop (k+1)) U F2
 | [],_,_,_,k,a,aj=>by simp at aj
 | b::l,xs,F,h,0,a,aj=>by
  obtain⟨x,y,F1,F2,rfl,rfl,ac,ap⟩:=h;simp only[List.getElem?_cons_zero,Ka] at aj;subst aj
  exact⟨[],x,y,[],F1,F2,rfl,rfl,⟨rfl,rfl⟩,ac,ap⟩
 | b::l,xs,F,h,k+1,a,aj=>by
  obtain⟨bl,y,g,S,rfl,rfl,ac,ap⟩:=h;simp only[List.getElem?_cons_succ] at aj;obtain⟨Z,x,U,F1,f,F2,rfl,rfl,aD,bt,cl⟩:=jC.DH ap aj;exact⟨bl++Z,x,U,g++F1,f,F2,by simp,by simp,⟨bl,Z,g,F1,rfl,rfl,ac,aD⟩,bt,cl⟩
theorem oA{α β:Type}(g:α->β):∀(l:List α) (k:Nat) (x:α),(l.set k x).map g=(l.map g).set k (g x)
 | [],_,_=>rfl
 | _::_,0,_=>rfl
 | a::l,k+1,x=>by simp[oA g l k x]
theorem df.start(h:df B w s N q xs F1 F2 bj bI){c0 c1 c2 c3:Value}{P:Nat->Prop}(cI:(dP R).rep w P [c0,c1,c2,c3])(S:∀b,P b->B<=b/\b<w.heap.size/\b≠N/\b∉F1++(F2++(bj++bI)))
  {aL aV X:World} (bi:w.alloc (.cells #[c0,c1,c2,c3] 59)=aL) {a1:Kj} {aW:Nat}
  (aZ:Own aV 56 1 a1 (q.hn+1) aW (xs++[.slice (some ⟨w.heap.size,0,none⟩) 1 1]) (bd a1 (q.hn+1) aW)) (aA:Fr (λb=>b∈bj) aL aV) (r:∀b∈bd a1 (q.hn+1) aW,b∈bj\/(aL.heap.size<=b/\b<aV.heap.size))
  (hX:aV.setCell ⟨N,2,none⟩ (.slice a1 (q.hn+1) aW)=X) :
  let ao:SV:=⟨q.GA,q.gn,q.gc,q.TA,q.tn,q.tc,a1,q.hn+1,aW⟩
  let aB:ah:={s with threads:=s.threads++[[R]]}
  ao.Is X (λb=>B<=b/\b<X.heap.size/\b≠N) aB/\au X N 31 (ao.val aB)/\Fr (λb=>B<=b) w X:=by
 intro ao aB;have dK:aL.heap.size=w.heap.size+1:=by rw[<-bi];simp
 have ag:=aY bi;have m:=aF bi;have bz:=aA.size;have bp:X.heap.size=aV.heap.size:=by rw[<-hX];simp[World.setCell]
 have nd:=h.st.nd;have n1:=uB.1 nd;have d3:∀b∈F1++(F2++bI),b∉bj:=λb O aD=>(List.nodup_append.1 n1).2.2 b aD b O rfl;have bu:∀b,b∈bj->b∈F1++(F2++(bj++bI)):=λb O=>by simp[O]
 have bw:∀b,b∈F1++(F2++bI)->b∈F1++(F2++(bj++bI)):=λb O=>by
  exact x6
 have o:∀b,b<aL.heap.size->b≠N->b∉bj->X.heap[b]?=aL.heap[b]?:=λb aq aH aD=>by
  rw[<-hX];exact(aJ aH).trans (aA.block b aq aD)
 have i:∀b∈F1++(F2++bI),X.heap[b]?=w.heap[b]?:=λb O=>by
  have hl:=(h.lo b (bw b O)).2;exact(o b ad (λhe=>h.ne (he▸bw b O)) (d3 b O)).trans (ag.block b hl λh=>h)
 have a:∀b,b∈F1++(F2++bI)->B<=b/\b<X.heap.size/\b≠N:=λb O=>⟨(h.lo b (bw b O)).1,by have:=(h.lo b (bw b O)).2;omega,λhe=>h.ne (he▸bw b O)⟩
 have dp:=h.o.lt;have L:∀b,P b->X.heap[b]?=w.heap[b]?:=λb O=>by
  obtain⟨_,ap,aD,bt⟩:=S b O;exact(o b ad aD (λcl=>bt (bu b cl))).trans (ag.block b ap λh=>h)
 have v:B<=w.heap.size:=by have:=h.go;omega
 have bC:au X w.heap.size 59 #[c0,c1,c2,c3]:=(o _ ad ad (λcl=>by have:=(h.lo _ (bu _ cl)).2;omega)).trans m;have b3:(dP R).rep X (λb=>B<=b/\b<X.heap.size/\b≠N) [c0,c1,c2,c3]:=D.aA (λb O=>by obtain⟨ac,ap,aD,_⟩:=S b O;exact⟨ac,ad,aD⟩) _ _ (D.aD L _ _ cI);have cj:Sl X (λb=>B<=b/\b<X.heap.size/\b≠N) (some ⟨w.heap.size,0,none⟩) 1 ([R].map dP):=⟨rfl,λ_=>⟨w.heap.size,0,[c0,c1,c2,c3],rfl,⟨v,ad,ad⟩,by simp only[JO,J5];exact D.bt.2 b3,λj u hu=>by
  rw[J0,bC.cell];simpa using hu⟩⟩
 have F:∀b∈bd a1 (q.hn+1) aW,b≠N:=λb O=>by
  rcases r b O with ac|ac
  .exact λhe=>h.ne (he▸bu b ac)
  .omega
 have d:Own X 56 1 a1 (q.hn+1) aW (xs++[.slice (some ⟨w.heap.size,0,none⟩) 1 1]) (bd a1 (q.hn+1) aW):=aZ.al λb O=>by rw[<-hX];exact aJ (F b O)
 refine⟨⟨⟨?_,?_,?_⟩,h.st.g.cap,h.st.t.cap,aZ.cap⟩,?_,?_⟩
 .exact(h.st.g.al λb O=>i b (by simp only[JR];exact .inl O)).sl (ck _) (by rw[JM];exact h.st.gl.symm) λb O=>a b (by simp only[JR];exact .inl O)
 .exact(h.st.t.al λb O=>i b (by simp only[JR];exact .inr (.inl O))).sl (dd _) (by rw[JM];exact h.st.tl.symm) λb O=>a b (by simp only[JR];exact .inr (.inl O))
 .have hold:D.aR X (λb=>B<=b/\b<X.heap.size/\b≠N) (s.threads.map jg) xs:=(h.st.hs.al m5.al λb O=>i b (by simp only[JR];exact .inr (.inr O))).aR m5.rep λb O=>a b (by simp only[JR];exact .inr (.inr O));refine d.sl (l:=(s.threads++[[R]]).map jg) (by rw[JP];exact D.cw hold (D.bt.2 (ei.2 ⟨_,1,1,rfl,JI _,cj⟩))) (by simp[h.st.hl]) λb O=>?_;refine⟨?_,(d.lt b O),F b O⟩;rcases r b O with ac|ac
  .exact(h.lo b (bu b ac)).1
  .omega
 .have:=(h.o.aj ag).on aA λaD=>h.ne (bu _ aD);rw[<-hX];exact this.bH 2 _
 .rw[<-hX];exact Fr.setCell (Fr.trans (Fr.mono ag λ_ h=>h.elim) (Fr.mono aA λb O=>(h.lo b (bu b O)).1)) (.inl h.go) _
theorem df.push(h:df B w s N q xs F1 F2 bj bI){k:Nat}(bx:s.threads[k]?=some (fs++[f])):
  ∃O bT fc co,q.HA=some ⟨O,0,none⟩/\k<q.hn/\O∈F1++(F2++(bj++bI))/\bT∈F1++(F2++(bj++bI))/\O<w.heap.size/\bT<w.heap.size/\B<=O/\B<=bT/\O≠bT/\O≠N/\bT≠N/\(∀j,w.frozen? ⟨O,j,none⟩=false)/\w.cell? ⟨O,k,none⟩=some (.slice (some ⟨bT,0,none⟩) (fs.length+1) fc)/\
   Own w 59 4 (some ⟨bT,0,none⟩) (fs.length+1) fc co [bT]/\
   ∀(R:ai) (cs:List Value) (P:Nat->Prop) (a1:Kj) (aW:Nat) (aV X:World),(dP R).rep w P cs->(∀b,P b->B<=b/\b<w.heap.size/\b≠N/\b∉F1++(F2++(bj++bI)))->
    Own aV 59 4 a1 (fs.length+2) aW (co++cs) (bd a1 (fs.length+2) aW)->Fr (λb=>b=bT) w aV->(∀b∈bd a1 (fs.length+2) aW,b=bT\/(w.heap.size<=b/\b<aV.heap.size))->
    aV.setCell ⟨O,k,none⟩ (.slice a1 (fs.length+2) aW)=X->
    q.Is X (λb=>B<=b/\b<X.heap.size/\b≠N) {s with threads:=s.threads.set k (fs++[f]++[R])}/\au X N 31 (q.val s)/\Fr (λb=>B<=b) w X:=by
 obtain⟨Z,x,U,z,M,e,bL,G,I,a5,cz⟩:=h.st.hs.DH bx;obtain⟨FA,n,c,co,ay,aw,rfl,rfl,cd,bb,aA⟩:=a5;have K:Z.length=k:=by have:=I.len m5.len;rw[List.length_take,Nat.mul_one] at this;have:=(List.getElem?_eq_some_iff.1 bx).1;omega
 have bM:k<s.threads.length:=(List.getElem?_eq_some_iff.1 bx).1;have aT:k<q.hn:=by rw[h.st.hl];exact bM
 obtain rfl:n=fs.length+1:=by simpa using cd
 obtain⟨bT,rfl,rfl,b3,ax,g,bq⟩:=bb.block ad;obtain⟨O,lJ,bZ,bG,t,A,E⟩:=h.st.h.block ad;subst G bZ;have nd:=h.st.nd;have nf:∀b∈(F1++(F2++([O]++z)))++(aw++e),b≠bT:=dZ (by simpa[JW] using nd);have C:∀b∈(F1++F2)++(z++(bT::(aw++e))),b≠O:=dZ (by simpa[JW] using nd);have l:O∈F1++(F2++([O]++(z++(([bT]++aw)++e)))):=by simp
 have bH:bT∈F1++(F2++([O]++(z++(([bT]++aw)++e)))):=by simp
 have Q:=t k (.slice (some ⟨bT,0,none⟩) (fs.length+1) c) (by rw[bL,List.getElem?_append_right ad,K,Nat.sub_self];rfl);refine⟨O,bT,c,co,lJ,aT,l,bH,bG,b3,(h.lo _ l).1,(h.lo _ bH).1,nf O (by simp),λhe=>h.ne (he▸l),λhe=>h.ne (he▸bH),A,Q,bb,?_⟩;intro R cs P a1 aW aV X cI S aZ bO r hX;have bz:=bO.size;have bp:X.heap.size=aV.heap.size:=by rw[<-hX];simp[World.setCell]
 have o:∀b,b<w.heap.size->b≠O->b≠bT->X.heap[b]?=w.heap[b]?:=λb aq aH aD=>by
  rw[<-hX];exact(aJ aH).trans (bO.block b aq aD)
 have mem:∀b,b∈F1++(F2++(z++(aw++e)))->b∈F1++(F2++([O]++(z++(([bT]++aw)++e)))):=λb O=>by
  simp only[JR] at O ⊢;rcases O with O|O|O|O|O
  .exact .inl O
  .exact .inr (.inl O)
  .exact .inr (.inr (.inr (.inl O)))
  .exact .inr (.inr (.inr (.inr (.inl (.inr O)))))
  .exact .inr (.inr (.inr (.inr (.inr O))))
 have i:∀b∈F1++(F2++(z++(aw++e))),X.heap[b]?=w.heap[b]?:=λb O=>by
  refine o b (h.lo b (mem b O)).2 (C b ?_) (nf b ?_)
  .simp only[JR,JY] at O ⊢;rcases O with O|O|O|O|O<;>simp[O]
  .simp only[JR] at O ⊢;rcases O with O|O|O|O|O<;>simp[O]
 have a:∀b,b∈F1++(F2++(z++(aw++e)))->B<=b/\b<X.heap.size/\b≠N:=λb O=>⟨(h.lo b (mem b O)).1,by have:=(h.lo b (mem b O)).2;omega,λhe=>h.ne (he▸mem b O)⟩
 have L:∀b,P b->X.heap[b]?=w.heap[b]?:=λb aN=>by
  obtain⟨_,ap,aD,bt⟩:=S b aN;exact o b ap (λhe=>bt (he▸l)) (λhe=>bt (he▸bH))
 have dp:=h.o.lt;have F:∀b∈bd a1 (fs.length+2) aW,b≠N/\b≠O:=λb aN=>by
  rcases r b aN with ac|ac
  .rw[ac];exact⟨λhe=>h.ne (he▸bH),λhe=>nf O (by simp) he.symm⟩
  .exact⟨ad,ad⟩
 have d:Own X 59 4 a1 (fs.length+2) aW (co++cs) (bd a1 (fs.length+2) aW):=aZ.al λb aN=>by rw[<-hX];exact aJ (F b aN).2
 have u:(dP R).rep X (λb=>B<=b/\b<X.heap.size/\b≠N) cs:=D.aA (λb O=>by obtain⟨ac,ap,aD,_⟩:=S b O;exact⟨ac,ad,aD⟩) _ _ (D.aD L _ _ cI);have v:D.aR X (λb=>B<=b/\b<X.heap.size/\b≠N) ((fs++[f]).map dP) co:=(aA.al nK.al λb O=>i b (by simp[O])).aR nK.rep λb O=>a b (by simp[O]);have y:Sl X (λb=>B<=b/\b<X.heap.size/\b≠N) a1 (fs.length+2) ((fs++[f]++[R]).map dP):=d.sl (by rw[JP];exact D.cw v (D.bt.2 u)) (by simp) λb aN=>⟨by
  rcases r b aN with ac|ac
  .rw[ac];exact(h.lo _ bH).1
  .have:=h.go;omega,d.lt b aN,(F b aN).1⟩
 refine⟨⟨⟨?_,?_,?_⟩,h.st.g.cap,h.st.t.cap,h.st.h.cap⟩,?_,?_⟩
 .exact(h.st.g.al λb O=>i b (by simp only[JR];exact .inl O)).sl (ck _) (by simp[h.st.gl]) λb O=>a b (by simp only[JR];exact .inl O)
 .exact(h.st.t.al λb O=>i b (by simp only[JR];exact .inr (.inl O))).sl (dd _) (by simp[h.st.tl]) λb O=>a b (by simp only[JR];exact .inr (.inl O))
 ·
  have uh:Own X 56 1 q.HA q.hn q.hc (xs.set k (.slice a1 (fs.length+2) aW)) [O]:=by
   have ac:Own aV 56 1 q.HA q.hn q.hc xs [O]:=h.st.h.al λb aN=>bO.block b (aC (J9.1 aN)) (by have:=J9.1 aN;rw[this];exact nf O (by simp));obtain⟨bv,he,H,_,_,_,ag⟩:=ac.block ad;have:bv=O:=by rw[lJ] at he;injection he with he;injection he with he _;exact he.symm
   subst this;rw[<-hX];exact ag k _ ad
  have m:D.aR X (λb=>B<=b/\b<X.heap.size/\b≠N) ((s.threads.set k (fs++[f]++[R])).map jg) (xs.set k (.slice a1 (fs.length+2) aW)):=by
   have e1:xs.set k (.slice a1 (fs.length+2) aW)=Z++([.slice a1 (fs.length+2) aW]++U):=by
    rw[bL,List.set_append_right _ _ ad,K,Nat.sub_self];rfl
   have e2:s.threads.set k (fs++[f]++[R])=s.threads.take k++((fs++[f]++[R])::s.threads.drop (k+1)):=List.set_eq_take_append_cons_drop.trans (by rw[if_pos bM]);rw[e1,e2,JP,JO];refine D.cw ((I.al m5.al λb O=>i b (by simp[O])).aR m5.rep λb O=>a b (by simp[O])) ?_;simp only[D.aR];exact⟨_,_,rfl,ei.2 ⟨_,_,_,rfl,d.cap,y⟩,(cz.al m5.al λb O=>i b (by simp[O])).aR m5.rep λb O=>a b (by simp[O])⟩
  exact uh.sl m (by simp[h.st.hl]) λb aN=>by rw[J9.1 aN];exact⟨(h.lo _ l).1,ad,λhe=>h.ne (he▸l)⟩
 .have:=h.o.on bO λhe=>h.ne (he▸bH);rw[<-hX];exact this.Ie (λhe=>h.ne (he▸l)) _
 .rw[<-hX];exact Fr.setCell (Fr.mono bO λb aN=>by rw[aN];exact(h.lo _ bH).1) (.inl (h.lo _ l).1) _
end
structure I0(u:ay)(s:ah)(t:Int)(f:ai)(x:ax)(a b:List Int×Int):Prop where
 Hn:a.2≠0->bU u s t f x=({s with fault:=a.2},true)
 Ho:a.2=0->b.2≠0->bU u s t f x=({s with fault:=b.2},true)
 many:a.2=0->b.2=0->x.op=3->32<=s.threads.length->bU u s t f x=({s with fault:=4},true)
 go:a.2=0->b.2=0->x.op=3->¬32<=s.threads.length->bU u s t f x=({bg s t (next f) with threads:=(bg s t (next f)).threads++[[cU u x.target a.1 b.1]]},true)
 call:a.2=0->b.2=0->x.op=2->bU u s t f x=(oR (bg s t (next f)) t (cU u x.target a.1 b.1),true)
theorem IM{u:ay}{s:ah}{t:Int}{x:ax}(cf:x.op=2\/x.op=3):I0 u s t f x (cz s.globals f.ints x.ints) (bS u s f x.places):=by
 have h0:bU u s t f x=(if bV (cz s.globals f.ints x.ints).2 (bS u s f x.places).2 (decide (x.op=3/\32<=s.threads.length))≠0 then ({s with fault:=bV (cz s.globals f.ints x.ints).2 (bS u s f x.places).2 (decide (x.op=3/\32<=s.threads.length))},true)
  else if x.op=3 then ({bg s t (next f) with threads:=(bg s t (next f)).threads++[[cU u x.target (cz s.globals f.ints x.ints).1 (bS u s f x.places).1]]},true)
  else (oR (bg s t (next f)) t (cU u x.target (cz s.globals f.ints x.ints).1 (bS u s f x.places).1),true)):=by
  unfold bU;rw[if_neg ad,if_pos cf]
 generalize cz s.globals f.ints x.ints=a at *;generalize bS u s f x.places=b at *;refine⟨λh=>?_,λh ac=>?_,λh ac aD bv=>?_,λh ac aD bv=>?_,λh ac ap=>?_⟩
 .have:bV a.2 b.2 (decide (x.op=3/\32<=s.threads.length))=a.2:=by unfold bV;rw[if_pos h]
  rw[h0,this,if_pos h]
 .have:bV a.2 b.2 (decide (x.op=3/\32<=s.threads.length))=b.2:=by unfold bV;rw[if_neg ad,if_pos ac]
  rw[h0,this,if_pos ac]
 .have:bV a.2 b.2 (decide (x.op=3/\32<=s.threads.length))=4:=by unfold bV;rw[if_neg ad,if_neg ad,if_pos (by simp[aD,bv])]
  rw[h0,this,if_pos ad]
 .have:bV a.2 b.2 (decide (x.op=3/\32<=s.threads.length))=0:=by unfold bV;rw[if_neg ad,if_neg ad,if_neg (by simp;omega)]
  rw[h0,this,if_neg ad,if_pos aD]
 .have:bV a.2 b.2 (decide (x.op=3/\32<=s.threads.length))=0:=by unfold bV;rw[if_neg ad,if_neg ad,if_neg (by simp;omega)]
  rw[h0,this,if_neg ad,if_neg ad]
namespace BJ
theorem eI(h:p:=by
 generalize aV:World.setCell _ _ _=dE;obtain⟨cp,bE,cB⟩:=dn.o _ _ _ _ _ _ _ bw.2.2.1 bw.2.2.2 cO.1 cO.2.1 cO.2.2 aV;have l:=av cp bE ((ab.2.2.2.2.1.aj bw.2.1).on cB ad);have aW:=ae (show Ext w dE from Fr.low (M:=λb=>aL.heap.size<=b) (Fr.trans (Fr.mono (ab.1.trans bw.2.1) λ_ h=>h.elim) cB) λb O=>ad);clear aV cp bE cB db bt dH d8;have cW:=l.2.2;obtain⟨bh,an,aM⟩:=cW.two;obtain⟨e0,bl,bm⟩:=l.2.1.two;clear cW;go_wp2_with(fail);generalize hX:World.setCell _ _ _=Z;obtain⟨bq,a5,a4⟩:=bk (w:=w) [.slice aN cg a3,.slice S tn aX,.slice (some ⟨O,0,none⟩) hn aO,.int .i64 s.fault] (by rfl) l.2.2 aW.o ad hX;have bn:=ak a5 a4;clear hX a5 a4 bh an aM e0 bl bm;obtain⟨bh,an,aM⟩:=bq.two;refine Ke (v:=.tuple #[.agg #[.slice aN cg a3,.slice S tn aX,.slice (some ⟨O,0,none⟩) hn aO,.int .i64 s.fault],.bool true]) (by simp[results,Tryz.results24,go_sem,bh]) rfl ?_;rw[b6.o];show cH lO w _ true _ _
 rw[sK br.2.2.1];have cF:=bn.2.size;exact⟨⟨aN,cg,a3,S,tn,aX,some ⟨O,0,none⟩,hn,aO⟩,rfl,((l.1.al (J:=Z) λb O=>bn.2.block b O.2.1 (aC O.1)).mono λb O=>.inr ⟨by have:=O.1;omega,by have:=O.2.1;show b<Z.heap.size;omega⟩),bn.1⟩
 ):p:=h
theorem yU(h:p:=by
 obtain⟨bq,a5,a4⟩:=bk (w:=w) [.slice aN aU a3,.slice S m aX,.slice bG cd aO,.int .i64 aH] (by rfl) a2.1 a2.2 ad hX;have bn:=ak a5 a4;clear hX a5 a4 bh an aM;obtain⟨bh,an,aM⟩:=bq.two;refine Ke (v:=.tuple #[.agg #[.slice aN aU a3,.slice S m aX,.slice bG cd aO,.int .i64 aH],.bool true]) (by simp[results,Tryz.results24,go_sem,bh]) rfl ?_;rw[b6.o];show cH lO w {s with fault:=aH} true _ _
 exact dS (aB:={s with fault:=aH}) (q:=⟨aN,aU,a3,S,m,aX,bG,cd,aO⟩) cT.o bn.2 (λb O=>ad) ad bn.1
 ):p:=h
theorem zv(h:p:=by
 refine(ux u s t f cc x N W ⟨GA,gn,gc,MA,mn,mc,PA,pn,pc⟩ ⟨bP,cg,bQ,TA,tn,tc,HA,hn,hc⟩ ⟨eo,en,es,EA,em,ec,QA,qm,qc,dg,j,dh,KA,de,kc⟩ aJ.o cf ab.2.2.2.2.2.1 ab.2.2.2.2.2.2.1 ab.2.2.2.2.2.2.2).mono ?_;intro e aL a6;have dU:=ak (λh ap=>a6.2.2 h ap) T.o;have dV:=(ow aJ.hS aJ.hF aJ.hp x.ints (aJ.args cf).1).2.1;have bf:=(mo (s:=s) (nk:=cc.aq) aJ.hU.ok aJ.hF (by rw[aJ.hF.ru aJ.hp];exact Int.le_refl _) x.places (aJ.args cf).2.1).2.1;generalize cz s.globals f.ints x.ints=aa at *;generalize bS u s f x.places=bb at *;obtain⟨dO,aH⟩:=aa;obtain⟨bi,bz⟩:=bb;have bW:=ak dV bf;clear dV bf dU a0 al af b0 am aw d0 aQ aR;have cP:=ab.1.size;have dv:=ab.2.2.2.2.1.lt;by_cases aS:aH=0
 case neg=>
  obtain⟨rfl,ag⟩:=a6.1 aS;have b6:=ae (T.Hn aS);have q1:(aH == 0)=false:=by simpa using aS
  have cM:(aH != 0)=true:=by simpa using aS
  clear a6 aS T bW;have a1:=ab.2.2.2.2.2.2.1.on ag;obtain⟨cY,bs⟩:=aI a1 ag;obtain⟨b0,am,aw⟩:=(ab.2.2.1.aj ag).two;obtain⟨d0,aQ,aR⟩:=(ab.2.2.2.1.aj ag).two;have ct:=ag.size;clear a1 ag;go_wp2_with(fail);refine(kq s ⟨bP,cg,bQ,TA,tn,tc,HA,hn,hc⟩ aH aL cY.o aJ.sm).mono ?_;exact yT
 by_cases I:bz=0
 case neg=>
  obtain⟨rfl,ag⟩:=a6.2.1 aS I;have b6:=ae (T.Ho aS I);have q1:(bz == 0)=false:=by simpa using I
  have cM:(bz != 0)=true:=by simpa using I
  clear a6 aS I T bW;have a1:=ab.2.2.2.2.2.2.1.on ag;obtain⟨cY,bs⟩:=aI a1 ag;obtain⟨b0,am,aw⟩:=(ab.2.2.1.aj ag).two;obtain⟨d0,aQ,aR⟩:=(ab.2.2.2.1.aj ag).two;have ct:=ag.size;clear a1 ag;go_wp2_with(fail);refine(kq s ⟨bP,cg,bQ,TA,tn,tc,HA,hn,hc⟩ bz aL cY.o aJ.sm).mono ?_;rintro e bV ⟨⟨aN,aU,a3,S,m,aX,bG,cd,aO⟩,rfl,b2,a7⟩;have cT:=ae b2;have bL:=(ab.2.2.2.2.1.aj bs.o).aj a7;have a2:=ak bL ((ab.1.trans bs.o).trans a7);clear b2 a7 b0 am aw d0 aQ aR;obtain⟨bh,an,aM⟩:=bL.two;clear bL;go_wp2_with(fail);generalize hX:World.setCell _ _ _=Z;obtain⟨bq,a5,a4⟩:=bk (w:=w) [.slice aN aU a3,.slice S m aX,.slice bG cd aO,.int .i64 bz] (by rfl) a2.1 a2.2 ad hX;have bn:=ak a5 a4;clear hX a5 a4 bh an aM;obtain⟨bh,an,aM⟩:=bq.two;refine Ke (v:=.tuple #[.agg #[.slice aN aU a3,.slice S m aX,.slice bG cd aO,.int .i64 bz],.bool true]) (by simp[results,Tryz.results24,go_sem,bh]) rfl ?_;rw[b6.o];show cH lO w {s with fault:=bz} true _ _
  exact dS (aB:={s with fault:=bz}) (q:=⟨aN,aU,a3,S,m,aX,bG,cd,aO⟩) cT.o bn.2 (λb O=>ad) ad bn.1
 obtain⟨IA,dJ,ci,bo,nl,cl,rfl,dQ,a8,dy,cj,ag⟩:=a6.2.2 aS I;have bF:=av dy cj ag;have dZ:dO.length=dJ:=by have:=dy.1;simpa using this
 have ck:bi.length=nl:=by have:=cj.1;simpa using this
 have bN:=b9 dZ ck (bW.1 aS) (bW.2 I);clear a6 dy cj dQ a8 dZ ck bW;have c6:=av (T.many aS I) (T.go aS I) (T.call aS I);clear T aS I;by_cases aD:x.op=3
 .have c7:(x.op == 3)=true:=by simpa using aD
  by_cases bv:32<=hn
  .have c8:decide ((hn:Int)>=32)=true:=by simpa using (by omega:(32:Int)<=(hn:Int))
   have b6:=ae (c6.1 aD (by rw[<-br.2.2.2.2];exact bv));clear aD bv c6;have a1:=ab.2.2.2.2.2.2.1.on ag;obtain⟨cY,bs⟩:=aI a1 ag;obtain⟨b0,am,aw⟩:=(ab.2.2.1.aj ag).two;obtain⟨d0,aQ,aR⟩:=(ab.2.2.2.1.aj ag).two;have ct:=ag.size;clear a1 ag;go_wp2_with(fail);refine(kq s ⟨bP,cg,bQ,TA,tn,tc,HA,hn,hc⟩ 4 aL cY.o aJ.sm).mono ?_;rintro e bV ⟨⟨aN,aU,a3,S,m,aX,bG,cd,aO⟩,rfl,b2,a7⟩;have cT:=ae b2;have bL:=(ab.2.2.2.2.1.aj bs.o).aj a7;have a2:=ak bL ((ab.1.trans bs.o).trans a7);clear b2 a7 b0 am aw d0 aQ aR;obtain⟨bh,an,aM⟩:=bL.two;clear bL;go_wp2_with(fail);generalize hX:World.setCell _ _ _=Z;obtain⟨bq,a5,a4⟩:=bk (w:=w) [.slice aN aU a3,.slice S m aX,.slice bG cd aO,.int .i64 4] (by rfl) a2.1 a2.2 ad hX;have bn:=ak a5 a4;clear hX a5 a4 bh an aM;obtain⟨bh,an,aM⟩:=bq.two;refine Ke (v:=.tuple #[.agg #[.slice aN aU a3,.slice S m aX,.slice bG cd aO,.int .i64 4],.bool true]) (by simp[results,Tryz.results24,go_sem,bh]) rfl ?_;rw[b6.o];show cH lO w {s with fault:=4} true _ _
   exact dS (aB:={s with fault:=4}) (q:=⟨aN,aU,a3,S,m,aX,bG,cd,aO⟩) cT.o bn.2 (λb O=>ad) ad bn.1
  .have c8:decide ((hn:Int)>=32)=false:=by simp;omega
   have b6:=ae (c6.2.1 aD (by rw[<-br.2.2.2.2];exact bv));clear aD bv c6;have a1:=ab.2.2.2.2.2.2.1.on ag;obtain⟨cY,bs⟩:=aI a1 ag;have c9:=br.2.1;have dA:t<(hn:Int):=by have:=br.2.2.2.2;have:=(List.getElem?_eq_some_iff.1 br.2.2.1).1;omega
   obtain⟨b0,am,aw⟩:=(ab.2.2.1.aj ag).two;obtain⟨d0,aQ,aR⟩:=(ab.2.2.2.1.aj ag).two;have ct:=ag.size;clear a1 ag;go_wp2_with(fail);refine(fa s bP TA HA cg bQ tn tc hn hc aL cY.at_ aJ.sm).mono ?_;rintro e bV ⟨aN,a3,S,aX,bG,aO,xs,F1,F2,bj,bI,rfl,ch,bc,a7⟩;have cb:=av ch bc a7;have cu:=a7.size;clear ch bc a7 b0 am aw d0 aQ aR;go_upto_region 7 with(fail);generalize hV:World.alloc _ _=V;have a9:=aY hV;have b8:=aF hV;have hOut:df aL.heap.size V s bV.heap.size ⟨aN,cg,a3,S,tn,aX,bG,hn,aO⟩ xs F1 F2 bj bI:=
    ⟨cb.1.al λb O=>a9.block b (cb.2.1 b O).2 λh=>h,b8,λO=>by have:=(cb.2.1 _ O).2;omega,λb O=>⟨(cb.2.1 b O).1,by have:=(cb.2.1 b O).2;have:=a9.size;omega⟩,cu⟩
   have z:Ext aL V:=cb.2.2.trans a9;obtain⟨c1,dx,i2,cN,dd,dp,di,c0,bZ,be,P⟩:=hOut.top br.2.2.1 br.2.1 br.1 br.2.2.2.1;have bR:=av be P z;obtain⟨e0,bl,bm⟩:=hOut.o.two;clear hV a9 b8 hOut z be P c0 bZ;go_wp2_with(fail);refine(bR.1 V Kf).mono ?_;rintro e cE ⟨rfl,aA⟩;have aK:=ae (bR.2.1 cE aA);have b4:=ae (bR.2.2.trans aA);clear e0 bl bm aA;have bX:=aK.c1;have g2:=aK.fz;have cv:=aK.lt;have cR:=cw.2.2.2.2.2;go_upto_region 8 with(fail);generalize hX:World.setCell _ _ _=X;have cK:qK aL.heap.size X {s with threads:=s.threads.set t.toNat (fs++[next f])} bV.heap.size ⟨aN,cg,a3,S,tn,aX,bG,hn,aO⟩ xs F1 F2 bj bI t fs (next f) c1 dx i2 cN dd dp di:=hX▸aK.H2 br.2.2.1 (f.pc+1);have bM:=da hX;have dD:=aK.ge;have i:Ext aL X:=Fr.low (M:=λb=>b=c1) (Fr.trans (Fr.mono b4.o λ_ h=>h.elim) bM) λb O=>ad;have ca:=bs.trans i;have aj:=av cK.oz i ca;obtain⟨a0,al,af⟩:=(ab.2.1.aj ca).two;obtain⟨d0,aQ,aR⟩:=(ab.2.2.2.1.aj ca).two;clear hX cK bM i ca bX g2 cv aK;go_wp2_with(fail);have dI:=(bF.1.al (J:=X) λb O=>aj.2.1.block b O.2 λh=>h).mono (c5:=ao X) λb O=>JJ O.2 aj.2.1.size;have bC:=(bF.2.1.al (J:=X) λb O=>aj.2.1.block b O.2 λh=>h).mono (c5:=ao X) λb O=>JJ O.2 aj.2.1.size;have bu:=bN.2.2.1;have dc:=bN.2.2.2;refine(mframe u x.target dN dO bi IA bo dJ ci nl cl X ⟨GA,gn,gc,MA,mn,mc,PA,pn,pc⟩ (ab.2.2.2.2.2.1.on aj.2.2) cw.1 cw.2.1 (BS cw.2.2.1 cw.2.2.2.2.1.ints) cw.2.2.2.2.1.ints.2.2 (aC aJ.kl) dI bC).mono ?_;rintro e cy ⟨FA,ds,aZ,dB,fl,b1,rfl,bY,b5⟩
   generalize cI:cU u x.target dO bi=R at *;have dk:=ae cI;have cX:=ak bY b5;clear cI dI bC bu dc bY b5 a0 al af d0 aQ aR;go_upto_region 9 with(fail);generalize cm:World.alloc _ _=Y;have ce:=aY cm;have bA:=aF cm;have bH:Ext X Y:=cX.2.trans ce;have cS:=aj.2.2.trans bH;have n:=aj.1.aj bH;have L:(dP R).rep Y (fresh X cy) [.int .i64 R.proc,.int .i64 R.pc,.slice FA ds aZ,.slice dB fl b1]:=D.aD (λb O=>ce.block b O.2 λh=>h) _ _ cX.1;have dj:=cX.2.size;have d5:=ce.size;have dX:=aj.1.o.lt;have dR:=aj.2.1.size;have bO:∀b,fresh X cy b->aL.heap.size<=b/\b<Y.heap.size/\b≠bV.heap.size/\b∉F1++(F2++(bj++bI)):=λb O=>⟨by have:=O.1;omega,by have:=O.2;omega,by have:=O.1;omega,λhm=>by have:=(aj.1.lo b hm).2;have:=O.1;omega⟩
   have bw:=b9 n cS L bO;obtain⟨d0,aQ,aR⟩:=(ab.2.2.2.1.aj cS).two;obtain⟨e0,bl,bm⟩:=n.o.two;obtain⟨f0,cQ,cV⟩:=bA.two;clear cm ce bA bH cS n L bO bR b4 cb;have bd:=bw.1.st.h.aj ((Fr.refl _ Y).alloc (.cells #[.int .i64 R.proc,.int .i64 R.pc,.slice FA ds aZ,.slice dB fl b1] 59));have dw:bV.heap.size∉bj:=λh=>bw.1.ne (by simp[h]);have cZ:=bw.1.o.aj ((Fr.refl _ Y).alloc (.cells #[.int .i64 R.proc,.int .i64 R.pc,.slice FA ds aZ,.slice dB fl b1] 59));have dt:=ak bd cZ;clear bd cZ;go_upto_region 12 with(at_builtin;refine l3 q9 rfl (.tmp 65) (.tmp 69) rfl dt.1 (cs:=#[.slice (some ⟨Y.heap.size,0,none⟩) 1 1]) rfl rfl (by simp) rfl (by simp[Value.oneCell']) (by simp only;omega) (by simp only;omega) ?_;intro bg c2 cJ bX g2 cv;have cC:=dt.2.on g2 dw;have cO:=av bX g2 cv;clear bX g2 cv e0 bl bm f0 cQ cV d0 aQ aR;obtain⟨e0,bl,bm⟩:=cC.two;clear cC);generalize aV:World.setCell _ _ _=dE;obtain⟨cp,bE,cB⟩:=bw.1.start bw.2.2.1 bw.2.2.2 rfl cO.1 cO.2.1 cO.2.2 aV;have l:=av cp bE ((ab.2.2.2.2.1.aj bw.2.1).on cB ad);have aW:=ae (show Ext w dE from Fr.low (M:=λb=>aL.heap.size<=b) (Fr.trans (Fr.mono (ab.1.trans bw.2.1) λ_ h=>h.elim) cB) λb O=>ad);clear aV cp bE cB e0 bl bm;have cW:=l.2.2;obtain⟨bh,an,aM⟩:=cW.two;obtain⟨e0,bl,bm⟩:=l.2.1.two;clear cW;go_wp2_with(fail);generalize hX:World.setCell _ _ _=Z;obtain⟨bq,a5,a4⟩:=bk (w:=w) [.slice aN cg a3,.slice S tn aX,.slice bg (hn+1) c2,.int .i64 s.fault] (by rfl) l.2.2 aW.o ad hX;have bn:=ak a5 a4;clear hX a5 a4 bh an aM e0 bl bm
   obtain⟨bh,an,aM⟩:=bq.two;refine Ke (v:=.tuple #[.agg #[.slice aN cg a3,.slice S tn aX,.slice bg (hn+1) c2,.int .i64 s.fault],.bool true]) (by simp[results,Tryz.results24,go_sem,bh]) rfl ?_;rw[b6.o];show cH lO w _ true _ _
   rw[dG br.2.2.1];have cF:=bn.2.size;exact⟨⟨aN,cg,a3,S,tn,aX,bg,hn+1,c2⟩,rfl,((l.1.al (J:=Z) λb O=>bn.2.block b O.2.1 (aC O.1)).mono λb O=>.inr ⟨by have:=O.1;omega,by have:=O.2.1;show b<Z.heap.size;omega⟩),bn.1⟩
 .have ap:x.op=2:=ad;have c7:(x.op == 3)=false:=by simpa using aD
  have b6:=ae (c6.2.2 ap);clear aD ap c6;have a1:=ab.2.2.2.2.2.2.1.on ag;obtain⟨cY,bs⟩:=aI a1 ag;have c9:=br.2.1;have dA:t<(hn:Int):=by have:=br.2.2.2.2;have:=(List.getElem?_eq_some_iff.1 br.2.2.1).1;omega
  obtain⟨b0,am,aw⟩:=(ab.2.2.1.aj ag).two;obtain⟨d0,aQ,aR⟩:=(ab.2.2.2.1.aj ag).two;have ct:=ag.size;clear a1 ag;go_wp2_with(fail);refine(fa s bP TA HA cg bQ tn tc hn hc aL cY.at_ aJ.sm).mono ?_;rintro e bV ⟨aN,a3,S,aX,bG,aO,xs,F1,F2,bj,bI,rfl,ch,bc,a7⟩;have cb:=av ch bc a7;have cu:=a7.size;clear ch bc a7 b0 am aw d0 aQ aR;go_upto_region 7 with(fail);generalize hV:World.alloc _ _=V;have a9:=aY hV;have b8:=aF hV;have hOut:df aL.heap.size V s bV.heap.size ⟨aN,cg,a3,S,tn,aX,bG,hn,aO⟩ xs F1 F2 bj bI:=
   ⟨cb.1.al λb O=>a9.block b (cb.2.1 b O).2 λh=>h,b8,λO=>by have:=(cb.2.1 _ O).2;omega,λb O=>⟨(cb.2.1 b O).1,by have:=(cb.2.1 b O).2;have:=a9.size;omega⟩,cu⟩
  have z:Ext aL V:=cb.2.2.trans a9;obtain⟨c1,dx,i2,cN,dd,dp,di,c0,bZ,be,P⟩:=hOut.top br.2.2.1 br.2.1 br.1 br.2.2.2.1;have bR:=av be P z;obtain⟨e0,bl,bm⟩:=hOut.o.two;clear hV a9 b8 hOut z be P c0 bZ;go_wp2_with(fail);refine(bR.1 V Kf).mono ?_;rintro e cE ⟨rfl,aA⟩;have aK:=ae (bR.2.1 cE aA);have b4:=ae (bR.2.2.trans aA);clear e0 bl bm aA;have bX:=aK.c1;have g2:=aK.fz;have cv:=aK.lt;have cR:=cw.2.2.2.2.2;go_upto_region 8 with(fail);generalize hX:World.setCell _ _ _=X;have cK:qK aL.heap.size X {s with threads:=s.threads.set t.toNat (fs++[next f])} bV.heap.size ⟨aN,cg,a3,S,tn,aX,bG,hn,aO⟩ xs F1 F2 bj bI t fs (next f) c1 dx i2 cN dd dp di:=hX▸aK.H2 br.2.2.1 (f.pc+1);have bM:=da hX;have dD:=aK.ge;have i:Ext aL X:=Fr.low (M:=λb=>b=c1) (Fr.trans (Fr.mono b4.o λ_ h=>h.elim) bM) λb O=>ad;have ca:=bs.trans i;have aj:=av cK.oz i ca;obtain⟨a0,al,af⟩:=(ab.2.1.aj ca).two;obtain⟨d0,aQ,aR⟩:=(ab.2.2.2.1.aj ca).two;clear hX cK bM i ca bX g2 cv aK;go_wp2_with(fail);have dI:=(bF.1.al (J:=X) λb O=>aj.2.1.block b O.2 λh=>h).mono (c5:=ao X) λb O=>JJ O.2 aj.2.1.size;have bC:=(bF.2.1.al (J:=X) λb O=>aj.2.1.block b O.2 λh=>h).mono (c5:=ao X) λb O=>JJ O.2 aj.2.1.size;have bu:=bN.2.2.1;have dc:=bN.2.2.2;refine(mframe u x.target dN dO bi IA bo dJ ci nl cl X ⟨GA,gn,gc,MA,mn,mc,PA,pn,pc⟩ (ab.2.2.2.2.2.1.on aj.2.2) cw.1 cw.2.1 (BS cw.2.2.1 cw.2.2.2.2.1.ints) cw.2.2.2.2.1.ints.2.2 (aC aJ.kl) dI bC).mono ?_;rintro e cy ⟨FA,ds,aZ,dB,fl,b1,rfl,bY,b5⟩
  generalize cI:cU u x.target dO bi=R at *;have dk:=ae cI;have cX:=ak bY b5;clear cI dI bC bu dc bY b5 a0 al af d0 aQ aR;go_upto_region 9 with(fail);generalize cm:World.alloc _ _=Y;have ce:=aY cm;have bA:=aF cm;have bH:Ext X Y:=cX.2.trans ce;have cS:=aj.2.2.trans bH;have n:=aj.1.aj bH;have L:(dP R).rep Y (fresh X cy) [.int .i64 R.proc,.int .i64 R.pc,.slice FA ds aZ,.slice dB fl b1]:=D.aD (λb O=>ce.block b O.2 λh=>h) _ _ cX.1;have dj:=cX.2.size;have d5:=ce.size;have dX:=aj.1.o.lt;have dR:=aj.2.1.size;have bO:∀b,fresh X cy b->aL.heap.size<=b/\b<Y.heap.size/\b≠bV.heap.size/\b∉F1++(F2++(bj++bI)):=λb O=>⟨by have:=O.1;omega,by have:=O.2;omega,by have:=O.1;omega,λhm=>by have:=(aj.1.lo b hm).2;have:=O.1;omega⟩
  have bw:=b9 n cS L bO;obtain⟨d0,aQ,aR⟩:=(ab.2.2.2.1.aj cS).two;obtain⟨e0,bl,bm⟩:=n.o.two;obtain⟨f0,cQ,cV⟩:=bA.two;clear cm ce bA bH cS n L bO bR b4 cb;obtain⟨O,bT,fc,co,lJ,aT,dY,dF,bB,dW,cA,bp,dM,bK,d3,c3,Q,aE,dC⟩:=bw.1.push (k:=t.toNat) (fs:=fs) (f:=next f) (by have aq:=(List.getElem?_eq_some_iff.1 br.2.2.1).1;simp[aq]);simp only at lJ;subst lJ;obtain⟨dn,dt⟩:=aI dC aE;have du:=br.2.2.2.1;have d6:=(aj.1.lo bT dF).2;have d7:=(aj.1.lo O dY).2;have d4:cy.heap.size≠bT:=ad;have dL:bV.heap.size≠bT:=Ne.symm d3;clear dC aE dY dF;go_upto_region 11 with(fail);refine fj (λb=>b=bT) [(0,3),(1,0),(2,3),(3,3),(4,0),(5,3),(6,3),(7,3),(8,0),(9,0),(10,1),(11,1),(12,3),(13,3),(14,2)] ?_;refine pf ?_;refine pK ?_
  iterate 2 refine pf ?_
  refine pK ?_
  iterate 3 refine pf ?_
  iterate 2 refine pK ?_
  refine sG ?_;refine k8 (λV=>Ext Y V/\au V Y.heap.size 59 #[.int .i64 R.proc,.int .i64 R.pc,.slice FA ds aZ,.slice dB fl b1]/\V.heap.size=Y.heap.size+1) ⟨by first|exact((Fr.refl _ Y).drew).alloc _|exact((Fr.refl _ Y).alloc _).drew,by first|exact Kg|exact au.new Y.drew _ _,by simp⟩ (λU hU=>?_);have cx:=ae hU;clear hU;refine aP rfl (λK hK=>?_);rw[if_pos (by rfl)];refine wO vS (.tmp 80) (.tmp 82) rfl (dt.aj cx.1) cx.2.1 rfl rfl rfl (by simp[Value.oneCell']) ad ad ?_;intro bg c2 cJ bX g2 cv;have cD:Fr (λb=>b=bT) U cJ:=g2.mono λb O=>J9.1 O;refine gu hK (cD) ?_;clear hK K;have ac:Fr (λb=>b=bT) Y cJ:=Fr.trans (cx.1.mono λ_ h=>h.elim) cD;have cO:=av bX ac (λb O=>(cv b O).imp (λh=>J9.1 h) (λh=>(⟨by have:=cx.2.2;omega,h.2⟩:Y.heap.size<=b/\b<cJ.heap.size)));have db:=(ac.cell (j:=t.toNat) bB dM).trans Q;have bt:∀j,cJ.frozen? ⟨O,j,none⟩=false:=λj=>(ac.frozen bB dM).trans (c3 j);have dH:=ac.size;clear bX g2 cv cD ac Q c3 e0 bl bm f0 cQ cV d0 aQ aR;exact Az
 ):p:=h
theorem gL(h:p:=by
 obtain⟨eo,en,es,EA,em,ec,QA,qm,qc,dg,j,dh,KA,de,kc⟩:=v;obtain⟨_,_,dz,dN,dK,d1,d2,dl⟩:=h.args cf;have pJ:hn=s.threads.length:=by have:=hs.at_.h.1;simpa using this.symm
 have dr:hn<=1000:=by have:=h.sm.h;omega
 have c4:=h.pc;have T:=ae (IM (u:=u) (s:=s) (t:=t) (f:=f) (x:=x) cf);have aJ:=ae h;have br:=dT cr c9 bx b3 pJ;have cw:=dq dz dK d1 d2 dl c4;have bR:=av hu hs bD;clear h cr c9 cn bx b3 pJ dz dK d1 d2 dl c4 hu hs bD;dsimp only[UV.val,SV.val,IV.val];go_enter func24,ntmps24;exact zu
 ):p:=h
end BJ
open BJ in
theorem Hy(u:ay)(s:ah)(t:Int)(f:ai)(cc:cG)(x:ax)(N:Nat)(w:World)(p:UV)(q:SV)(v:IV)(h:je u s t f cc x N)(cf:x.op=2\/x.op=3)(hu:p.Ok w u)(hs:q.Ok w s)(bD:v.Ok w x) :
  Calls prog 24 #[.agg (p.val u),.agg (q.val s),.int .i64 t,.agg (v.val x)] w (cH lO w (bU u s t f x).1 (bU u s t f x).2):=by
 obtain⟨cr,c9,cn,fs,bx,b3⟩:=h.th;exact gK
end Go.Proofs.YtnigabjngpnbiaaGreat

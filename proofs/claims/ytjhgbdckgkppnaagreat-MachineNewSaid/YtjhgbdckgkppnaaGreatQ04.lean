/- Part 4 of the proof (Gro Grp Typ Syn Conv), without conditions of its own. -/
import Derived.Test.YtjhgbdckgkppnaaGreatQ02
namespace Go.Proofs.YtjhgbdckgkppnaaGreat
open Go.RowKit Go.Proofs.Tryz
set_option maxRecDepth 1000000
set_option maxHeartbeats 25600000
set_option linter.unusedVariables false
variable{a:Act}{K:Act→World→Prop}{d:D}{m:List D}{rest:List Oper}{cd cs xs:List Value}{sz:Nat}{M:Nat→Prop}{o:Oper}{G:Prop}{α β γ:Type}{S:World}
abbrev j2(P:Nat→Prop)(w:World)(v:Value):Nat→Prop:=fun b=>P b∧b<w.heap.size∧v.ownBlock≠some b
structure Gr(P:Nat→Prop)(B:Nat)(e:TypeId)(z:Nat)(w:World)(A:GR)(n c:Nat)(l:List D):Prop where
 len:l.length=n
 ex:∃xs,w.ownsRow B e z (.slice A n c) n xs∧D.aL w (j2 P w (.slice A n c)) l xs
section
variable {P Q:Nat→Prop} {B q:Nat} {e:TypeId} {z:Nat} {w ab aH:World} {A:GR} {n c:Nat} {l:List D}
theorem Gr.nil(P:Nat→Prop)(B:Nat)(e:TypeId)(z:Nat)(w:World):Gr P B e z w none 0 0 []:=⟨rfl,[],⟨by simp,.inl ⟨rfl,rfl⟩⟩,by simp only[D.aL]⟩
theorem Gr.lt(h:Gr P B e z w A n c l){g:Nat}(aM:(Value.slice A n c).ownBlock=some g):B≤g∧g<w.heap.size:=by
 obtain⟨_,xs,ac,_⟩:=h;exact ac.lt g aM
theorem Gr.cap(h:Gr P B e z w A n c l):n≤c∧c≤maxLen:=by
 obtain⟨_,xs,ac,_⟩:=h;obtain⟨_,_,bC,J,aS,_⟩:=bT ac;injection bC with _ _ bC;subst bC;exact⟨J,aS⟩
theorem Gr.ao(h:Gr P B e z w A n c l)(hs:w.heap.size≤ab.heap.size)(ap:∀b,b<w.heap.size→(P b∨B≤b)→ab.heap[b]?=w.heap[b]?):Gr P B e z ab A n c l:=by
 obtain⟨hl,xs,ac,J⟩:=h;refine⟨hl,xs,⟨ac.1,?_⟩,D.cr (fun b O=>⟨O.1,Gc O.2.1 hs,O.2.2⟩) _ _ (D.cJ (fun b O=>ap b O.2.1 (.inl O.1)) _ _ J)⟩;rcases ac.2 with aS|⟨g,cap,cur,bC,j,bf,rest⟩
 ·exact .inl aS
 ·exact .inr ⟨g,cap,cur,bC,j,(ap g (Array.getElem?_eq_some_iff.1 bf).1 (.inr j)).trans bf,rest⟩
theorem Gr.cz(h:Gr P B e z w A n c l)(hs:w.heap.size≤ab.heap.size)(ap:∀b,b<w.heap.size→(P b∨(Value.slice A n c).ownBlock=some b)→ab.heap[b]?=w.heap[b]?):Gr P B e z ab A n c l:=by
 obtain⟨hl,xs,ac,J⟩:=h;refine⟨hl,xs,⟨ac.1,?_⟩,D.cr (fun b O=>⟨O.1,Gc O.2.1 hs,O.2.2⟩) _ _ (D.cJ (fun b O=>ap b O.2.1 (.inl O.1)) _ _ J)⟩;rcases ac.2 with aS|⟨g,cap,cur,bC,j,bf,rest⟩
 ·exact .inl aS
 ·exact .inr ⟨g,cap,cur,bC,j,(ap g (Array.getElem?_eq_some_iff.1 bf).1 (.inr (by rw[bC];rfl))).trans bf,rest⟩
theorem Gr.base{q:Nat}(h:Gr P B e z w A n c l)(aT:q≤B):Gr P q e z w A n c l:=by
 obtain⟨hl,xs,ac,J⟩:=h;refine⟨hl,xs,⟨ac.1,?_⟩,J⟩;rcases ac.2 with aS|⟨g,cap,cur,bC,j,bf,rest⟩
 ·exact .inl aS
 ·exact .inr ⟨g,cap,cur,bC,ad,bf,rest⟩
theorem Gr.mono(h:Gr P B e z w A n c l)(U:∀b,b<w.heap.size→P b→Q b):Gr Q B e z w A n c l:=by
 obtain⟨hl,xs,ac,J⟩:=h;exact⟨hl,xs,ac,D.cr (fun b O=>⟨U b O.2.1 O.1,O.2.1,O.2.2⟩) _ _ J⟩
theorem Gr.al(h:Gr P B e z w A n c l)(O:Ext w ab):Gr P B e z ab A n c l:=h.ao O.size fun b ao _=>O.block b ao fun h=>h
theorem Gr.cZ(h:Gr P B e z w A n c l)(O:Fr M w ab)(a5:∀b,M b→b<w.heap.size→¬P b∧b<B):Gr P B e z ab A n c l:=
 h.ao O.size fun b ao hp=>O.block b ao fun hm=>by
  obtain⟨ac,J⟩:=a5 b hm ao;rcases hp with hp|hp
  ·exact ac hp
  ·omega
theorem Gr.sl(h:Gr P B e z w A n c l)(U:∀b,b<w.heap.size→P b→Q b)(aT:∀b,b<w.heap.size→B≤b→Q b):Sl w Q A n l:=by
 obtain⟨hl,xs,ac,J⟩:=h;exact Sl.om ac (D.cr (fun b O=>U b O.2.1 O.1) _ _ J) hl fun g _ ac J=>aT g J ac
end
abbrev c4(S:World)(A:GR)(n c:Nat)(az:GR)(L aG:Nat):Prop:=∀b,(Value.slice az L aG).ownBlock=some b→(Value.slice A n c).ownBlock=some b∨S.heap.size≤b
section
variable {P:Program} {f:Nat→Prop} {B:Nat} {e t:TypeId} {z:Value} {size bytes:Nat}
theorem Gr.snoc{w ab:World}{A az:GR}{n c aG:Nat}{l:List D}{a:Nat}(hl:l.length=n)(ac:w.ownsRow B e a (.slice A n c) n xs)(J:D.aL w (j2 f w (.slice A n c)) l xs)
  (hd:d.rep w (j2 f w (.slice A n c)) cd) {s:Nat} (hs:w.heap.size≤s) (I:ab.ownsRow B e a (.slice az (n+1) aG) (n+1) (xs++cd)) (aM:w.grownBy ab (Value.slice A n c).ownBlock)
  (O:(Value.slice az (n+1) aG).ownBlock=(Value.slice A n c).ownBlock∨(Value.slice az (n+1) aG).ownBlock=some s):Gr f B e a ab az (n+1) aG (l++[d]):=by
 refine⟨by simp[hl],_,I,D.er ?_ (D.bH.2 ?_)⟩
 ·refine D.cr (fun b aN=>⟨aN.1,Gc aN.2.1 aM.size,fun hc=>?_⟩) _ _ (D.cJ (fun b aN=>aM.block b aN.2.1 fun he=>aN.2.2 he.symm) _ _ J);exact uh
 ·refine D.aP (fun b aN=>⟨aN.1,Gc aN.2.1 aM.size,fun hc=>?_⟩) _ _ (D.bg (fun b aN=>aM.block b aN.2.1 fun he=>aN.2.2 he.symm) _ _ hd);exact uh
namespace yg
theorem xF{p:Prop}(h:p:=by
 exact h az aG ab (Gr.snoc hl ac J hd (s:=S.heap.size+1) ad bZ aM (by simpa using cj)) (GN.grown aM fun g aM=>.inl aM) (fun b O=>by
  rcases cj with cj|cj
  ·rw[cj] at O;exact .inl O
  ·rw[cj] at O;injection O with O;right;simp at O;omega) hc
 ):p:=h
end yg
open yg in
theorem lI{Q:Exit→Act→World→Prop}(bb:b0 P t e z size bytes)(s x:Operand)
  (bi:o.op=.call {callee:=.builtin .append,args:=#[s,x],argTypes:=#[t,t]})
  {A:GR} {n c:Nat} {l:List D} (h0:Gr f B e size S A n c l) {d:D} {cs:Array Value} (hd:d.rep S (j2 f S (.slice A n c)) cs.toList)
  (hs:a.eval s=.slice A n c) (hx:a.eval x=.slice (some ⟨S.heap.size,0,none⟩) 1 1) (T:cs.size=size)
  (r:(n+1)*bytes≤140737488355328) (H:n+1≤140737488355328) (C:B≤S.heap.size)
  (h:∀az aG ab,Gr f B e size ab az (n+1) aG (l++[d])→Fr (fun b=>(Value.slice A n c).ownBlock=some b) S ab→c4 S A n c az (n+1) aG→n+1≤aG→K (a.put o.dst (.slice az (n+1) aG)) ab):o.wp P a (S.alloc (.cells cs e)) K Q:=by
 obtain⟨hl,xs,ac,J⟩:=h0;refine je _ bb s x bi B _ n xs hs (ac.alloc _) _ 1 1 cs.toList hx (Src.block (heap_alloc_new S _) 1 ad (D.qw _ _ hd)) r H (by simp;omega) (fun h=>nomatch h) fun M ab bZ cz cj=>?_;exact xE
theorem bS{ops:Array Oper}{Q:Exit→Act→World→Prop}(bb:b0 P t e z size bytes)(i:o.guard=none)(s x:Operand)
  (bi:o.op=.call {callee:=.builtin .append,args:=#[s,x],argTypes:=#[t,t]})
  {A:GR} {n c:Nat} {l:List D} (h0:Gr f B e size S A n c l) {d:D} {cs:Array Value} (hd:d.rep S (j2 f S (.slice A n c)) cs.toList)
  (hs:a.eval s=.slice A n c) (hx:a.eval x=.slice (some ⟨S.heap.size,0,none⟩) 1 1) (T:cs.size=size)
  (r:(n+1)*bytes≤140737488355328) (H:n+1≤140737488355328) (C:B≤S.heap.size)
  (h:∀az aG ab,Gr f B e size ab az (n+1) aG (l++[d])→Fr (fun b=>(Value.slice A n c).ownBlock=some b) S ab→c4 S A n c az (n+1) aG→n+1≤aG→wpList P ops Q rest (a.put o.dst (.slice az (n+1) aG)) ab):wpList P ops Q (o::rest) a (S.alloc (.cells cs e)):=
 wpList_plain i fun _ hK=>lI bb s x bi h0 hd hs hx T r H C fun az aG ab b4 g2 cD cP=>hK _ _ (h az aG ab b4 g2 cD cP)
theorem Gr.DG{w ab:World}{A az:GR}{n m c aG:Nat}{l k:List D}{a:Nat}(hl:l.length=n)(hm:k.length=m)(ac:w.ownsRow B e a (.slice A n c) n xs)(J:D.aL w (j2 f w (.slice A n c)) l xs)
  (hd:D.aL w (j2 f w (.slice A n c)) k cd) {s:Nat} (hs:w.heap.size≤s) (I:ab.ownsRow B e a (.slice az (n+m) aG) (n+m) (xs++cd)) (aM:w.grownBy ab (Value.slice A n c).ownBlock)
  (O:(Value.slice az (n+m) aG).ownBlock=(Value.slice A n c).ownBlock∨(Value.slice az (n+m) aG).ownBlock=some s):Gr f B e a ab az (n+m) aG (l++k):=by
 refine⟨by simp[hl,hm],_,I,D.er ?_ ?_⟩
 ·refine D.cr (fun b aN=>⟨aN.1,Gc aN.2.1 aM.size,fun hc=>?_⟩) _ _ (D.cJ (fun b aN=>aM.block b aN.2.1 fun he=>aN.2.2 he.symm) _ _ J);exact uh
 ·refine D.cr (fun b aN=>⟨aN.1,Gc aN.2.1 aM.size,fun hc=>?_⟩) _ _ (D.cJ (fun b aN=>aM.block b aN.2.1 fun he=>aN.2.2 he.symm) _ _ hd);exact uh
theorem t1{Q:Exit→Act→World→Prop}(bb:b0 P t e z size bytes)(s x:Operand)
  (bi:o.op=.call {callee:=.builtin .append,args:=#[s,x],argTypes:=#[t,t]})
  {A A2:GR} {n c m c2:Nat} {l k:List D} (h0:Gr f B e size S A n c l) (ap:Sl S (j2 f S (.slice A n c)) A2 m k) (bv:∀d∈k,d.sz=size)
  (hs:a.eval s=.slice A n c) (hx:a.eval x=.slice A2 m c2)
  (r:(n+m)*bytes≤140737488355328) (H:n+m≤140737488355328) (C:B≤S.heap.size)
  (h:∀az aG ab,Gr f B e size ab az (n+m) aG (l++k)→Fr (fun b=>(Value.slice A n c).ownBlock=some b) S ab→c4 S A n c az (n+m) aG→n+m≤aG→K (a.put o.dst (.slice az (n+m) aG)) ab):o.wp P a S K Q:=by
 obtain⟨hl,xs,ac,J⟩:=h0;obtain⟨cd,aX,aC⟩:=ap.src bv;refine je _ bb s x bi B _ n xs hs ac _ m c2 cd hx aC r H C (fun h=>(by subst h;exact ap.none_)) fun M ab bZ cz cj=>?_;obtain⟨az,aG,rfl,hc,_⟩:=bT bZ;exact h az aG ab (Gr.DG hl ap.1 ac J aX (s:=S.heap.size) (Gb _) bZ cz cj) (GN.grown cz fun g aM=>.inl aM) (fun b O=>by
  rcases cj with cj|cj
  ·rw[cj] at O;exact .inl O
  ·rw[cj] at O;injection O with O;right;omega) hc
theorem oN{ops:Array Oper}{Q:Exit→Act→World→Prop}(bb:b0 P t e z size bytes)(i:o.guard=none)(s x:Operand)
  (bi:o.op=.call {callee:=.builtin .append,args:=#[s,x],argTypes:=#[t,t]})
  {A A2:GR} {n c m c2:Nat} {l k:List D} (h0:Gr f B e size S A n c l) (ap:Sl S (j2 f S (.slice A n c)) A2 m k) (bv:∀d∈k,d.sz=size)
  (hs:a.eval s=.slice A n c) (hx:a.eval x=.slice A2 m c2)
  (r:(n+m)*bytes≤140737488355328) (H:n+m≤140737488355328) (C:B≤S.heap.size)
  (h:∀az aG ab,Gr f B e size ab az (n+m) aG (l++k)→Fr (fun b=>(Value.slice A n c).ownBlock=some b) S ab→c4 S A n c az (n+m) aG→n+m≤aG→wpList P ops Q rest (a.put o.dst (.slice az (n+m) aG)) ab):wpList P ops Q (o::rest) a S:=
 wpList_plain i fun _ hK=>t1 bb s x bi h0 ap bv hs hx r H C fun az aG ab b4 g2 cD cP=>hK _ _ (h az aG ab b4 g2 cD cP)
end
structure jO(B:Nat)(e1:TypeId)(cc:Nat)(e2:TypeId)(aR:Nat)(w:World)(A:GR)(n c:Nat)(l:List D)(az:GR)(L aG:Nat)(y:List D):Prop where
 one:Gr (fun b=>B≤b∧(Value.slice az L aG).ownBlock≠some b) B e1 cc w A n c l
 two:Gr (fun b=>B≤b∧(Value.slice A n c).ownBlock≠some b) B e2 aR w az L aG y
 ne:∀b,(Value.slice A n c).ownBlock=some b→(Value.slice az L aG).ownBlock≠some b
section
variable {B:Nat} {e1 e2:TypeId} {cc aR:Nat} {w ab:World} {A az A2:GR} {n c L aG bl c2:Nat} {l y dd:List D}
theorem jO.nil(B:Nat)(e1:TypeId)(cc:Nat)(e2:TypeId)(aR:Nat)(w:World):jO B e1 cc e2 aR w none 0 0 [] none 0 0 []:=⟨Gr.nil _ _ _ _ _,Gr.nil _ _ _ _ _,fun b h=>by cases h⟩
theorem jO.swap(h:jO B e1 cc e2 aR w A n c l az L aG y):jO B e2 aR e1 cc w az L aG y A n c l:=⟨h.two,h.one,fun b ac J=>h.ne b J ac⟩
theorem jO.cZ(h:jO B e1 cc e2 aR w A n c l az L aG y)(O:Fr M w ab)(a5:∀b,M b→b<w.heap.size→b<B):jO B e1 cc e2 aR ab A n c l az L aG y:=by
 refine⟨h.one.cz O.size fun b ao hp=>O.block b ao fun hm=>?_,h.two.cz O.size fun b ao hp=>O.block b ao fun hm=>?_,h.ne⟩
 ·have:=a5 b hm ao;rcases hp with hp|hp
  ·have:=hp.1;omega
  ·have:=(h.one.lt hp).1;omega
 ·have:=a5 b hm ao;rcases hp with hp|hp
  ·have:=hp.1;omega
  ·have:=(h.two.lt hp).1;omega
theorem jO.al(h:jO B e1 cc e2 aR w A n c l az L aG y)(O:Ext w ab):jO B e1 cc e2 aR ab A n c l az L aG y:=h.cZ O fun _ h _=>h.elim
theorem jO.grow(h:jO B e1 cc e2 aR w A n c l az L aG y)(aM:Gr (fun b=>B≤b∧(Value.slice az L aG).ownBlock≠some b) B e1 cc ab A2 bl c2 dd)(aw:Fr (fun b=>(Value.slice A n c).ownBlock=some b) w ab)(bi:c4 w A n c A2 bl c2) :
  jO B e1 cc e2 aR ab A2 bl c2 dd az L aG y:=by
 have ac:Gr (fun b=>(B≤b∧(Value.slice A n c).ownBlock≠some b)∧(Value.slice A2 bl c2).ownBlock≠some b) B e2 aR w az L aG y:=h.two.mono fun b ao hp=>⟨hp,fun O=>by
  rcases bi b O with ac|ac
  ·exact hp.2 ac
  ·omega⟩
 have J:=ac.cz aw.size fun b ao hp=>aw.block b ao fun hm=>by
  rcases hp with hp|hp
  ·exact hp.1.2 hm
  ·exact h.ne b hm hp
 refine⟨aM,J.mono fun b _ hp=>⟨hp.1.1,hp.2⟩,fun b O J=>?_⟩;rcases bi b O with ac|ac
 ·exact h.ne b ac J
 ·have:=(h.two.lt J).2;omega
end
theorem Gr.lit{P:Nat→Prop}{w:World}{e:TypeId}{z n:Nat}{cs:Array Value}{l:List D}(hl:l.length=n)(T:cs.size=n*z)(hn:n≤1000000)(aX:D.aL w (fun b=>P b∧b<w.heap.size) l cs.toList):
  Gr P w.heap.size e z (w.alloc (.cells cs e)) (some ⟨w.heap.size,0,none⟩) n n l:=by
 refine⟨hl,cs.toList,World.ownsRow_lit w _ n (Gb _) (by unfold maxLen;omega) T,?_⟩;refine D.cr (fun b O=>⟨O.1,by have:=O.2;simp;omega,fun hc=>?_⟩) _ _ (D.cJ (fun b O=>Below.heap_alloc w _ b O.2) _ _ aX);simp[Value.ownBlock] at hc;have:=O.2;omega
def pq(g:Nat):World→Nat→List Value→World
 | V,_,[]=>V
 | V,i,v::vs=>pq g (V.setCell ⟨g,i,none⟩ v) (i+1) vs
def iG:Array Value→Nat→List Value→Array Value
 | cs,_,[]=>cs
 | cs,i,v::vs=>iG (cs.setIfInBounds i v) (i+1) vs
theorem kO:∀(vs:List Value) (i:Nat) (cs:Array Value),i+vs.length≤cs.size→(iG cs i vs).toList=cs.toList.take i++vs++cs.toList.drop (i+vs.length)
 | [],i,cs,_=>by simp[iG]
 | v::vs,i,cs,h=>by
  simp only[Gp] at h;rw[iG,kO vs (i+1) _ (by simp;omega),Array.toList_setIfInBounds];have aJ:i<cs.toList.length:=by simp;omega
  rw[List.take_succ_eq_append_getElem (by simpa using aJ),List.take_set_of_le (Gb _),List.drop_set_of_lt ad];simp[Nat.add_assoc,Nat.add_comm 1]
theorem jZ{g:Nat}{t:TypeId}:∀(vs:List Value) (i:Nat) (V:World) (cs:Array Value),ag V g t cs→ag (pq g V i vs) g t (iG cs i vs)
 | [],_,_,_,h=>h
 | _::vs,i,_,_,h=>jZ vs (i+1) _ _ (h.aH i _)
theorem k9{g:Nat}:∀(vs:List Value) (i:Nat) (V:World),Fr (fun b=>b=g) V (pq g V i vs)
 | [],_,_=>GN
 | _::vs,i,_=>Fr.trans ((Fr.refl (fun b=>b=g) _).setCell (.inl rfl) _) (k9 vs (i+1) _)
theorem cx{w X V:World}{g:Nat}{t:TypeId}{cs:Array Value}(vs:List Value)(hs:cs.size=vs.length)(aT:ag V g t cs)(av:Ext w V)(aM:w.heap.size≤g)(ah:pq g V 0 vs=X):
  ag X g t vs.toArray∧Ext w X∧Fr (fun b=>b=g) V X:=by
 subst ah;have aw:=k9 (g:=g) vs 0 V;refine⟨?_,Fr.low (M:=fun b=>b=g) (Fr.trans (Fr.mono av fun _ h=>h.elim) aw) fun k ap=>by subst ap;exact aM,aw⟩;have ac:=jZ vs 0 V cs aT;have J:iG cs 0 vs=vs.toArray:=by
  apply Array.toList_inj.1
  rw[kO vs 0 cs ad];simp;omega
 rwa [J] at ac
section
variable {P:Program} {f:Nat→Prop} {B:Nat} {e t:TypeId} {z:Value} {size bytes:Nat}
theorem d8{Q:Exit→Act→World→Prop}(bb:b0 P t e z size bytes)(s x:Operand)
  (bi:o.op=.call {callee:=.builtin .append,args:=#[s,x],argTypes:=#[t,t]})
  {A:GR} {n c g:Nat} {l:List D} (h0:Gr f B e size S A n c l) {d:D} {cs:Array Value} {i:TypeId} (aT:ag S g i cs) (hd:d.rep S (j2 f S (.slice A n c)) cs.toList)
  (hs:a.eval s=.slice A n c) (hx:a.eval x=.slice (some ⟨g,0,none⟩) 1 1) (T:cs.size=size)
  (r:(n+1)*bytes≤140737488355328) (H:n+1≤140737488355328) (C:B≤S.heap.size)
  (h:∀az aG ab,Gr f B e size ab az (n+1) aG (l++[d])→Fr (fun b=>(Value.slice A n c).ownBlock=some b) S ab→c4 S A n c az (n+1) aG→n+1≤aG→K (a.put o.dst (.slice az (n+1) aG)) ab):o.wp P a S K Q:=by
 obtain⟨hl,xs,ac,J⟩:=h0;have aC:Src S size (some ⟨g,0,none⟩) 1 cs.toList:=⟨by simpa using T,D.qw _ _ hd,fun _=>⟨g,0,rfl,fun j u ba=>by
  rw[Gv,aT.cell];simpa using ba⟩⟩
 refine je _ bb s x bi B _ n xs hs ac _ 1 1 cs.toList hx aC r H C (fun h=>nomatch h) fun M ab bZ cz cj=>?_;obtain⟨az,aG,rfl,hc,_⟩:=bT bZ;refine h az aG ab (Gr.snoc hl ac J hd (s:=S.heap.size) (Gb _) bZ cz cj) (GN.grown cz fun g aM=>.inl aM) (fun b O=>?_) hc;exact wv
theorem tZ{Q:Exit→Act→World→Prop}(bb:b0 P t e z size bytes)(s x:Operand)
  (bi:o.op=.call {callee:=.builtin .append,args:=#[s,x],argTypes:=#[t,t]})
  {A A2:GR} {n c m c2:Nat} {l k:List D} {cd:List Value} (h0:Gr f B e size S A n c l) (aX:D.aL S (j2 f S (.slice A n c)) k cd) (ap:k.length=m) (aC:Src S size A2 m cd) (hn:A2=none→m=0)
  (hs:a.eval s=.slice A n c) (hx:a.eval x=.slice A2 m c2)
  (r:(n+m)*bytes≤140737488355328) (H:n+m≤140737488355328) (C:B≤S.heap.size)
  (h:∀az aG ab,Gr f B e size ab az (n+m) aG (l++k)→Fr (fun b=>(Value.slice A n c).ownBlock=some b) S ab→c4 S A n c az (n+m) aG→n+m≤aG→K (a.put o.dst (.slice az (n+m) aG)) ab):o.wp P a S K Q:=by
 obtain⟨hl,xs,ac,J⟩:=h0;refine je _ bb s x bi B _ n xs hs ac _ m c2 cd hx aC r H C hn fun M ab bZ cz cj=>?_;obtain⟨az,aG,rfl,hc,_⟩:=bT bZ;refine h az aG ab (Gr.DG hl ap ac J aX (s:=S.heap.size) (Gb _) bZ cz cj) (GN.grown cz fun g aM=>.inl aM) (fun b O=>?_) hc;exact wv
theorem oM{ops:Array Oper}{Q:Exit→Act→World→Prop}(bb:b0 P t e z size bytes)(i:o.guard=none)(s x:Operand)
  (bi:o.op=.call {callee:=.builtin .append,args:=#[s,x],argTypes:=#[t,t]})
  {A A2:GR} {n c m c2:Nat} {l k:List D} {cd:List Value} (h0:Gr f B e size S A n c l) (aX:D.aL S (j2 f S (.slice A n c)) k cd) (ap:k.length=m) (aC:Src S size A2 m cd) (hn:A2=none→m=0)
  (hs:a.eval s=.slice A n c) (hx:a.eval x=.slice A2 m c2)
  (r:(n+m)*bytes≤140737488355328) (H:n+m≤140737488355328) (C:B≤S.heap.size)
  (h:∀az aG ab,Gr f B e size ab az (n+m) aG (l++k)→Fr (fun b=>(Value.slice A n c).ownBlock=some b) S ab→c4 S A n c az (n+m) aG→n+m≤aG→wpList P ops Q rest (a.put o.dst (.slice az (n+m) aG)) ab):wpList P ops Q (o::rest) a S:=
 wpList_plain i fun _ hK=>tZ bb s x bi h0 aX ap aC hn hs hx r H C fun az aG ab b4 g2 cD cP=>hK _ _ (h az aG ab b4 g2 cD cP)
theorem f9{Q:Exit→Act→World→Prop}(bb:b0 P t e z size bytes)(s x:Operand)
  (bi:o.op=.call {callee:=.builtin .append,args:=#[s,x],argTypes:=#[t,t]})
  {A2:GR} {g m c2:Nat} {k:List D} {cd:List Value} (h0:Gr f B e size S (some ⟨g,0,none⟩) 0 0 []) (aX:D.aL S (j2 f S (.slice (some ⟨g,0,none⟩) 0 0)) k cd) (ap:k.length=m) (aC:Src S size A2 m cd) (hn:A2=none→m=0)
  (hs:a.eval s=.slice (some ⟨g,0,none⟩) 0 0) (hx:a.eval x=.slice A2 m c2)
  (r:m*bytes≤140737488355328) (H:m≤140737488355328) (C:B≤S.heap.size)
  (h:∀az aG ab,Gr f B e size ab az m aG k→Fr (fun b=>b=g) S ab→(∀b,(Value.slice az m aG).ownBlock=some b→b=g∨S.heap.size≤b)→m≤aG→K (a.put o.dst (.slice az m aG)) ab):o.wp P a S K Q:=by
 refine tZ bb s x bi h0 aX ap aC hn hs hx (by rw[Gv];exact r) ad C fun az aG ab b4 g2 cD cP=>?_;simp only[Gv,GG] at b4 cD cP ⊢;exact h az aG ab b4 (g2.mono fun b O=>by simp[Value.ownBlock] at O;exact O.symm) (fun b O=>(cD b O).imp (fun h=>by simp[Value.ownBlock] at h;exact h.symm) id) cP
end
section
variable {P:Program} {ops:Array Oper} {Q:Exit→Act→World→Prop} {R:World→World→Prop} {tails:List Nat}
theorem f5{δ:Type}{rest:PT}{aa:α→β→γ→δ→Act}{C:α→β→γ→δ→World→Prop}(h:(∀x y z u V,C x y z u V→cN P ops Q R tails rest (aa x y z u) V)→G)(key:∀x y z u V,C x y z u V→cN P ops Q R tails rest (aa x y z u) V):G:=h key
theorem f4{rest:PT}{aa:α→β→γ→Act}{C:α→β→γ→World→Prop}(h:(∀x y z V,C x y z V→cN P ops Q R tails rest (aa x y z) V)→G)(key:∀x y z V,C x y z V→cN P ops Q R tails rest (aa x y z) V):G:=h key
theorem oJ{rest:PT}{aa:α→β→Act}{C:α→β→World→Prop}(h:(∀x y V,C x y V→cN P ops Q R tails rest (aa x y) V)→G)(key:∀x y V,C x y V→cN P ops Q R tails rest (aa x y) V):G:=h key
end
theorem D7{w a b:World}(ac:Ext w a)(J:Ext w b)(hs:a.heap.size=w.heap.size+1)(bK:a.heap.size≤b.heap.size):Fr (fun k=>k=w.heap.size) a b:=
 ⟨J.os.trans ac.os.symm,J.tape.trans ac.tape.symm,J.output.trans ac.output.symm,bK,fun k ap hn=>(J.block k ad fun h=>h).trans (ac.block k ad fun h=>h).symm⟩
theorem s3{P:Nat→Prop}{w ab:World}{v:Value}(h:d.rep w (j2 P w v) cs)(he:Ext w ab):d.rep ab (j2 P ab v) cs:=
 D.aP (fun b O=>⟨O.1,Gc O.2.1 he.size,O.2.2⟩) _ _ (D.bg (fun b O=>he.block b O.2.1 fun h=>h) _ _ h)
structure d2 where
 name:ByteArray
 idx:Option VE
inductive cQ where
 | mx (r:d2)
 | ex (e:VE)
inductive aj where
 | nil
 | set (isVar:Bool) (n:ByteArray) (e:VE) (rest:aj)
 | call (a:Bool) (n:ByteArray) (args:List cQ) (rest:aj)
 | lock (un:Bool) (r:d2) (rest:aj)
 | ite (e:VE) (th el rest:aj)
 | fj (e:VE) (th rest:aj)
 | ret (rest:aj)
structure aG where
 name:ByteArray
 params:List (ByteArray×Bool)
 body:aj
structure bC where
 globals:List (ByteArray×Int)
 af:List bF
 funcs:List aG
structure bK where
 param:Bool
 index:Int
 at_:Option VE
structure aC where
 op:Int
 target:Int
 da:Bool
 expr:Option VE
 place:bK
 ints:List VE
 places:List bK
structure c5 where
 name:ByteArray
 ints:Int
 av:Int
 locals:Int
 code:List aC
structure aF where
 globals:List Int
 af:List bF
 procs:List c5
 main:Int
structure aq where
 proc:Int
 pc:Int
 ints:List Int
 av:List Int
structure an where
 globals:List Int
 table:List ct
 threads:List (List aq)
 fault:Int
def a4:VE→D
 | .num n=>.st [.i 1,.i n,.s ⟨#[]⟩,.sl []]
 | .ga s=>.st [.i 2,.i 0,.s s,.sl []]
 | .loc k=>.st [.i 18,.i k,.s ⟨#[]⟩,.sl []]
 | .hR k=>.st [.i 19,.i k,.s ⟨#[]⟩,.sl []]
 | .un op x=>.st [.i op,.i 0,.s ⟨#[]⟩,.sl [a4 x]]
 | .bin op x y=>.st [.i op,.i 0,.s ⟨#[]⟩,.sl [a4 x,a4 y]]
def iO:D:=.st [.i 0,.i 0,.s ⟨#[]⟩,.sl []]
def mR:Option VE→D
 | none=>iO
 | some x=>a4 x
def VE.aU:VE→Int
 | .num _=>1
 | .ga _=>2
 | .loc _=>18
 | .hR _=>19
 | .un op _=>op
 | .bin op _ _=>op
def VE.numOf:VE→Int
 | .num n=>n
 | .loc k=>k
 | .hR k=>k
 | _=>0
def VE.aZ:VE→ByteArray
 | .ga s=>s
 | _=>⟨#[]⟩
def VE.args:VE→List VE
 | .un _ x=>[x]
 | .bin _ x y=>[x,y]
 | _=>[]
theorem uD(x:VE):a4 x=.st [.i x.aU,.i x.numOf,.s x.aZ,.sl (x.args.map a4)]:=by
 cases x<;>simp[a4,VE.aU,VE.numOf,VE.aZ,VE.args]
theorem cS(x:VE):(a4 x).sz=4:=by rw[uD];rfl
section
variable {w:World} {P:Nat→Prop}
theorem aM:D.aL w P [] cs↔cs=[]:=by simp only[D.aL]
theorem a9{n:Int}{l:List D}:D.aL w P (.i n::l) cs↔∃y,cs=.int .i64 n::y∧D.aL w P l y:=by
 exact zV
theorem eE{n:Bool}{l:List D}:D.aL w P (.b n::l) cs↔∃y,cs=.bool n::y∧D.aL w P l y:=by
 exact zV
theorem ca{n:ByteArray}{l:List D}:D.aL w P (.s n::l) cs↔∃y,cs=.string n::y∧D.aL w P l y:=by
 exact zV
theorem aJ{l:List D}:D.aL w P (.sl m::l) cs↔∃A n c y,cs=.slice A n c::y∧n≤c∧Sl w P A n m∧D.aL w P l y:=by
 constructor
 ·intro h;simp only[D.aL] at h;obtain⟨x,y,rfl,hx,h⟩:=h;obtain⟨A,c,n,rfl,hc,hs⟩:=D.qz.1 hx;exact⟨A,n,c,y,rfl,hc,hs,h⟩
 ·rintro⟨A,n,c,y,rfl,hc,hs,h⟩;simp only[D.aL];exact⟨_,y,rfl,D.qz.2 ⟨A,c,n,rfl,hc,hs⟩,h⟩
theorem bw:(D.st m).rep w P cs↔D.aL w P m cs:=by simp only[D.rep]
theorem aV{x:VE}:(a4 x).rep w P cs↔∃A n c,cs=[.int .i64 x.aU,.int .i64 x.numOf,.string x.aZ,.slice A n c]∧n≤c∧Sl w P A n (x.args.map a4):=by
 rw[uD,bw,a9];constructor
 ·rintro⟨y,rfl,h⟩;obtain⟨b2,rfl,ac⟩:=a9.1 h;obtain⟨bu,rfl,J⟩:=ca.1 ac;obtain⟨A,n,c,bA,rfl,hc,hs,aS⟩:=aJ.1 J;exact uo
 ·rintro⟨A,n,c,rfl,hc,hs⟩;exact⟨_,rfl,a9.2 ⟨_,rfl,ca.2 ⟨_,rfl,aJ.2 ⟨A,n,c,[],rfl,hc,hs,aM.2 rfl⟩⟩⟩⟩
theorem eA:iO.rep w P cs↔∃A c,cs=[.int .i64 0,.int .i64 0,.string ⟨#[]⟩,.slice A 0 c]:=by
 unfold iO;rw[bw,a9];constructor
 ·rintro⟨y,rfl,h⟩;obtain⟨b2,rfl,ac⟩:=a9.1 h;obtain⟨bu,rfl,J⟩:=ca.1 ac;obtain⟨A,n,c,bA,rfl,hc,hs,aS⟩:=aJ.1 J;rw[aM] at aS;subst aS;obtain rfl:n=0:=hs.1.symm;exact⟨A,c,rfl⟩
 ·rintro⟨A,c,rfl⟩;exact⟨_,rfl,a9.2 ⟨_,rfl,ca.2 ⟨_,rfl,aJ.2 ⟨A,0,c,[],rfl,Gz _,Sl.bu A,aM.2 rfl⟩⟩⟩⟩
theorem Sl.AV{A:GR}(h:Sl w P A 1 [d])(bv:d.sz=4):∃b o bD Z ay E,A=some ⟨b,o,none⟩∧P b∧d.rep w P [bD,Z,ay,E]∧
  w.cell? ⟨b,o,none⟩=some bD∧w.cell? ⟨b,o+1,none⟩=some Z∧w.cell? ⟨b,o+2,none⟩=some ay∧w.cell? ⟨b,o+3,none⟩=some E:=by
 obtain⟨b,o,a,cs,bb,O,hd,aX,hl,hc⟩:=h.at_ (z:=4) (k:=0) (fun e he=>by simp at he;subst he;exact bv) ad;simp at hd;subst hd
 match cs,hl with
 | [bD,Z,ay,E],_=>
  have h0:=hc 0 bD rfl;have ac:=hc 1 Z rfl;have J:=hc 2 ay rfl;have aS:=hc 3 E rfl;simp only[Nat.zero_mul,Gl] at h0 ac J aS;exact⟨b,o,bD,Z,ay,E,bb,O,aX,h0,ac,J,aS⟩
theorem Sl.FU{A:GR}{e:D}(h:Sl w P A 2 [d,e])(bv:d.sz=4)(c6:e.sz=4):∃b o bD Z ay E b8 b2 bu bA,A=some ⟨b,o,none⟩∧P b∧d.rep w P [bD,Z,ay,E]∧e.rep w P [b8,b2,bu,bA]∧
  w.cell? ⟨b,o,none⟩=some bD∧w.cell? ⟨b,o+1,none⟩=some Z∧w.cell? ⟨b,o+2,none⟩=some ay∧w.cell? ⟨b,o+3,none⟩=some E∧
  w.cell? ⟨b,o+4,none⟩=some b8∧w.cell? ⟨b,o+5,none⟩=some b2∧w.cell? ⟨b,o+6,none⟩=some bu∧w.cell? ⟨b,o+7,none⟩=some bA:=by
 have s:∀x∈[d,e],x.sz=4:=fun x hx=>by
  simp at hx;rcases hx with rfl|rfl<;>assumption
 obtain⟨b,o,a,cs,bb,O,hd,aX,hl,hc⟩:=h.at_ (z:=4) (k:=0) s ad;obtain⟨K,V,l,f,c,_,he,am,aa,a2⟩:=h.at_ (z:=4) (k:=1) s ad;rw[bb] at c;injection c with c;injection c with aN dg;subst aN dg;simp at hd he;subst hd he
 match cs,hl,f,aa with
 | [bD,Z,ay,E],_,[b8,b2,bu,bA],_=>
  have h0:=hc 0 bD rfl;have ac:=hc 1 Z rfl;have J:=hc 2 ay rfl;have aS:=hc 3 E rfl;have cH:=a2 0 b8 rfl;have cm:=a2 1 b2 rfl;have bZ:=a2 2 bu rfl;have cz:=a2 3 bA rfl;simp only[Nat.zero_mul,Gl,Nat.one_mul,Nat.add_assoc,Nat.reduceAdd] at h0 ac J aS cH cm bZ cz;exact⟨b,o,bD,Z,ay,E,b8,b2,bu,bA,bb,O,aX,am,h0,ac,J,aS,cH,cm,bZ,cz⟩
theorem jx:∀(x:VE) (cs:List Value),(a4 x).rep w P cs→x.rep w P cs
 | .num n,cs,h=>by
  obtain⟨A,n,c,rfl,_,hs⟩:=aV.1 h;obtain rfl:n=0:=hs.1.symm
  exact⟨_,_,_,rfl⟩
 | .ga s,cs,h=>by
  obtain⟨A,n,c,rfl,_,hs⟩:=aV.1 h;obtain rfl:n=0:=hs.1.symm
  exact⟨_,_,_,rfl⟩
 | .loc k,cs,h=>by
  obtain⟨A,n,c,rfl,_,hs⟩:=aV.1 h;obtain rfl:n=0:=hs.1.symm
  exact⟨_,_,_,rfl⟩
 | .hR k,cs,h=>by
  obtain⟨A,n,c,rfl,_,hs⟩:=aV.1 h;obtain rfl:n=0:=hs.1.symm
  exact⟨_,_,_,rfl⟩
 | .un op x,cs,h=>by
  obtain⟨A,n,c,rfl,_,hs⟩:=aV.1 h;obtain rfl:n=1:=hs.1.symm;obtain⟨b,o,bD,Z,ay,E,rfl,O,aX,c0,c1,c2,c3⟩:=Sl.AV hs (cS x)
  exact⟨_,_,b,o,c,bD,Z,ay,E,rfl,O,jx x _ aX,c0,c1,c2,c3⟩
 | .bin op x y,cs,h=>by
  obtain⟨A,n,c,rfl,_,hs⟩:=aV.1 h;obtain rfl:n=2:=hs.1.symm;obtain⟨b,o,bD,Z,ay,E,b8,b2,bu,bA,rfl,O,aX,am,c0,c1,c2,c3,a6,ca,aP,cx⟩:=Sl.FU hs (cS x) (cS y);exact⟨_,_,b,o,c,bD,Z,ay,E,b8,b2,bu,bA,rfl,O,jx x _ aX,jx y _ am,c0,c1,c2,c3,a6,ca,aP,cx⟩
end
def jB(r:d2):D:=.st [.s r.name,.sl (r.idx.toList.map a4)]
def ff:D:=.st [.s ⟨#[]⟩,.sl []]
def fQ:cQ→D
 | .mx r=>.st [.b true,jB r,iO]
 | .ex e=>.st [.b false,ff,a4 e]
def fL(kind:Int)(name:ByteArray)(e r:D)(args th el:List D):D:=.st [.i kind,.s name,e,r,.sl args,.sl th,.sl el]
def cL:aj→List D
 | .nil=>[]
 | .set v n e rest=>fL (if v then 1 else 2) n (a4 e) ff [] [] []::cL rest
 | .call g n aO rest=>fL (if g then 4 else 3) n iO ff (aO.map fQ) [] []::cL rest
 | .lock u r rest=>fL (if u then 6 else 5) ⟨#[]⟩ iO (jB r) [] [] []::cL rest
 | .ite e th el rest=>fL 7 ⟨#[]⟩ (a4 e) ff [] (cL th) (cL el)::cL rest
 | .fj e th rest=>fL 8 ⟨#[]⟩ (a4 e) ff [] (cL th) []::cL rest
 | .ret rest=>fL 9 ⟨#[]⟩ iO ff [] [] []::cL rest
def cW(p:ByteArray×Bool):D:=.st [.s p.1,.b p.2]
def c7(f:aG):D:=.st [.s f.name,.sl (f.params.map cW),.sl (cL f.body)]
def hq(g:ByteArray×Int):D:=.st [.s g.1,.i g.2]
def d4(m:bF):D:=.st [.s m.name,.b m.re,.i m.size]
def cV(p:bK):D:=.st [.b p.param,.i p.index,.sl (p.at_.toList.map a4)]
def dK(x:aC):D:=.st [.i x.op,.i x.target,.b x.da,mR x.expr,cV x.place,.sl (x.ints.map a4),.sl (x.places.map cV)]
def fm(p:c5):D:=.st [.s p.name,.i p.ints,.i p.av,.i p.locals,.sl (p.code.map dK)]
def q5(u:aF):D:=.st [.sl (u.globals.map D.i),.sl (u.af.map d4),.sl (u.procs.map fm),.i u.main]
def fh(f:aq):D:=.st [.i f.proc,.i f.pc,.sl (f.ints.map D.i),.sl (f.av.map D.i)]
def kD(t:List aq):D:=.st [.sl (t.map fh)]
def mQ(h:ct):D:=.st [.i h.owner,.i h.depth]
theorem Sl.Fq{enc:α→D}{f:α→List Value}(aw:∀(w:World) (P:Nat→Prop) (x:α) (cs:List Value),(enc x).rep w P cs→cs=f x)(bv:∀x,(enc x).sz=sz)
  {w:World} {A:GR} {n:Nat} {l:List α} (h:Sl w (au w) A n (l.map enc)):cG (EF f) sz w w.heap.size A n l:=by
 have hl:l.length=n:=by rw[←h.1,Gf]
 refine⟨hl,fun hn=>?_⟩;obtain⟨b,o,bb,O⟩:=h.some_ hn;refine⟨b,o,bb,O,fun k x hx=>?_⟩;have ap:k<n:=by have:=(List.getElem?_eq_some_iff.1 hx).1;omega
 obtain⟨K,V,y,cs,c,_,a3,aX,aM,hc⟩:=h.fJ bv ap;rw[bb] at c;injection c with c;injection c with ac J;subst ac J;rw[hx] at a3;injection a3 with a3;subst a3;exact⟨cs,aw _ _ _ _ aX,aM,hc⟩
theorem lz{α:Type}{enc:α→D}{f:α→List Value}{w:World}{P:Nat→Prop}(aw:∀x,(enc x).rep w P (f x)):∀l:List α,D.aL w P (l.map enc) (l.flatMap f)
 | []=>by simp only[GC,D.aL,List.flatMap_nil]
 | x::l=>by
  rw[Gh,Gx];simp only[D.aL];exact⟨_,_,rfl,aw x,lz aw l⟩
theorem cG.sl{enc:α→D}{f:α→List Value}{w:World}{P:Nat→Prop}{B n:Nat}{A:GR}{l:List α}(aw:∀x,(enc x).rep w P (f x))(hs:∀x,(f x).length=sz)(h0:0<sz)
  (h:cG (EF f) sz w B A n l) (U:∀b,b<B→P b):Sl w P A n (l.map enc):=by
 refine⟨by rw[Gf,h.1],fun hn=>?_⟩;obtain⟨b,o,bb,O,hc⟩:=h.2 hn;refine⟨b,o,l.flatMap f,bb,U b O,lz aw l,fun j u ba=>?_⟩;have a5:=(List.getElem?_eq_some_iff.1 ba).1;rw[ft f sz l fun x _=>hs x] at a5;have aY:j / sz<l.length:=by rw[Nat.div_lt_iff_lt_mul h0];exact a5
 have hx:l[j / sz]?=some (l[j / sz]'aY):=List.getElem?_eq_getElem aY;have d:=Nat.mod_lt j h0;have a:j / sz*sz+j % sz=j:=Nat.div_add_mod' j sz;have b2:=eT f sz l (fun x _=>hs x) _ _ hx (j % sz) d;rw[a,ba] at b2;obtain⟨cs,he,_,c⟩:=hc _ _ hx;rw[EF] at he;subst he;have:=c _ _ b2.symm
 rwa [Nat.add_assoc,a] at this
theorem uR{w:World}{P:Nat→Prop}{x:Int}:(D.i x).rep w P cs↔cs=dB x:=by simp only[D.rep,dB]
theorem Sl.ints{w:World}{A:GR}{n:Nat}{l:List Int}(h:Sl w (au w) A n (l.map D.i)):cG (EF dB) 1 w w.heap.size A n l:=Sl.Fq (enc:=D.i) (f:=dB) (fun _ _ _ _=>uR.1) (fun _=>rfl) h
theorem cG.ints{w:World}{P:Nat→Prop}{B n:Nat}{A:GR}{l:List Int}(h:cG (EF dB) 1 w B A n l)(U:∀b,b<B→P b):Sl w P A n (l.map D.i):=cG.sl (enc:=D.i) (f:=dB) (fun _=>uR.2 rfl) (fun _=>rfl) (by decide) h U
theorem ez{w:World}{P:Nat→Prop}{m:bF}:(d4 m).rep w P cs↔cs=hi m:=by
 unfold d4;rw[bw,ca];constructor
 ·rintro⟨y,rfl,h⟩;rw[eE] at h;exact wx
 ·rintro rfl;exact⟨_,rfl,eE.2 ⟨_,rfl,a9.2 ⟨_,rfl,aM.2 rfl⟩⟩⟩
theorem rH{w:World}{P:Nat→Prop}{m:ct}:(mQ m).rep w P cs↔cs=bZ m:=by
 unfold mQ;rw[bw,a9];exact zT
theorem Sl.ql{w:World}{A:GR}{n:Nat}{l:List bF}(h:Sl w (au w) A n (l.map d4)):cG (EF hi) 3 w w.heap.size A n l:=Sl.Fq (enc:=d4) (f:=hi) (fun _ _ _ _=>ez.1) (fun _=>rfl) h
theorem cG.ql{w:World}{P:Nat→Prop}{B n:Nat}{A:GR}{l:List bF}(h:cG (EF hi) 3 w B A n l)(U:∀b,b<B→P b):Sl w P A n (l.map d4):=cG.sl (enc:=d4) (f:=hi) (fun _=>ez.2 rfl) (fun _=>rfl) (by decide) h U
theorem Sl.holds{w:World}{A:GR}{n:Nat}{l:List ct}(h:Sl w (au w) A n (l.map mQ)):cG (EF bZ) 2 w w.heap.size A n l:=Sl.Fq (enc:=mQ) (f:=bZ) (fun _ _ _ _=>rH.1) (fun _=>rfl) h
theorem cG.holds{w:World}{P:Nat→Prop}{B n:Nat}{A:GR}{l:List ct}(h:cG (EF bZ) 2 w B A n l)(U:∀b,b<B→P b):Sl w P A n (l.map mQ):=cG.sl (enc:=mQ) (f:=bZ) (fun _=>rH.2 rfl) (fun _=>rfl) (by decide) h U
end Go.Proofs.YtjhgbdckgkppnaaGreat

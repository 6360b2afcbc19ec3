/- Part 8 of the proof. No condition of its own. -/
import Derived.Test.YtnigabjngpnbiabGreatF06
namespace Go.Proofs.YtnigabjngpnbiabGreat
open Go.RowKit Go.Proofs.Tryz
set_option maxRecDepth 1000000
set_option maxHeartbeats 25600000
set_option linter.unusedVariables false
variable{a:Act}{K:Act->World->Prop}{cs:Array Value}{b:Bool}{d:D}{xs:List Value}{X:List bM}{T:List di}{sz:Nat}{M:Nat->Prop}{o:Oper}{rest:PT}{G p:Prop}{α β γ:Type}{v:Value}{S:World}
abbrev lD(P:Nat->Prop)(w:World)(v:Value):Nat->Prop:=λb=>P b/\b<w.heap.size/\v.ownBlock≠some b
structure Gr(P:Nat->Prop)(B:Nat)(e:TypeId)(z:Nat)(w:World)(A:NH)(n c:Nat)(l:List D):Prop where
 len:l.length=n
 ex:∃xs,w.ownsRow B e z (.slice A n c) n xs/\D.aQ w (lD P w (.slice A n c)) l xs
section
variable {P Q:Nat->Prop} {B q:Nat} {e:TypeId} {z:Nat} {w ab aO:World} {A:NH} {n c:Nat} {l:List D}
theorem Gr.nil(P:Nat->Prop)(B:Nat)(e:TypeId)(z:Nat)(w:World):Gr P B e z w none 0 0 []:=⟨rfl,[],⟨by simp,.inl ⟨rfl,rfl⟩⟩,by simp only[D.aQ]⟩
theorem Gr.lt(h:Gr P B e z w A n c l){g:Nat}(aR:(Value.slice A n c).ownBlock=some g):B<=g/\g<w:=by
 obtain⟨_,xs,ac,_⟩:=h;exact ac.lt g aR
theorem Gr.cap(h:Gr P B e z w A n c l):n<=c/\c<=maxLen:=by
 obtain⟨_,xs,ac,_⟩:=h;obtain⟨_,_,bK,az,aV,_⟩:=bG ac;injection bK with _ _ bK;subst bK;exact⟨az,aV⟩
theorem Gr.ak(h:Gr P B e z w A n c l)(hs:w.heap.size<=ab.heap.size)(aj:∀b,b<w.heap.size->(P b\/B<=b)->ab.heap[b]?=w.heap[b]?):Gr P B e z ab A n c l:=by
 obtain⟨hl,xs,ac,az⟩:=h;refine⟨hl,xs,⟨ac.1,?_⟩,D.b0 (λb O=>⟨O.1,M0 O.2.1 hs,O.2.2⟩) _ _ (D.bZ (λb O=>aj b O.2.1 (.inl O.1)) _ _ az)⟩;rcases ac.2 with aV|⟨g,cap,cur,bK,j,a4,rest⟩
 .exact .inl aV
 .exact .inr ⟨g,cap,cur,bK,j,(aj g (Array.getElem?_eq_some_iff.1 a4).1 (.inr j)).trans a4,rest⟩
theorem Gr.dm(h:Gr P B e z w A n c l)(hs:w.heap.size<=ab.heap.size)(aj:∀b,b<w.heap.size->(P b\/(Value.slice A n c).ownBlock=some b)->ab.heap[b]?=w.heap[b]?):Gr P B e z ab A n c l:=by
 obtain⟨hl,xs,ac,az⟩:=h;refine⟨hl,xs,⟨ac.1,?_⟩,D.b0 (λb O=>⟨O.1,M0 O.2.1 hs,O.2.2⟩) _ _ (D.bZ (λb O=>aj b O.2.1 (.inl O.1)) _ _ az)⟩;rcases ac.2 with aV|⟨g,cap,cur,bK,j,a4,rest⟩
 .exact .inl aV
 .exact .inr ⟨g,cap,cur,bK,j,(aj g (Array.getElem?_eq_some_iff.1 a4).1 (.inr (by rw[bK];rfl))).trans a4,rest⟩
theorem Gr.base{q:Nat}(h:Gr P B e z w A n c l)(aT:q<=B):Gr P q e z w A n c l:=by
 obtain⟨hl,xs,ac,az⟩:=h;refine⟨hl,xs,⟨ac.1,?_⟩,az⟩;rcases ac.2 with aV|⟨g,cap,cur,bK,j,a4,rest⟩
 .exact .inl aV
 .exact .inr ⟨g,cap,cur,bK,ad,a4,rest⟩
theorem Gr.mono(h:Gr P B e z w A n c l)(bh:∀b,b<w.heap.size->P b->Q b):Gr Q B e z w A n c l:=by
 obtain⟨hl,xs,ac,az⟩:=h;exact⟨hl,xs,ac,D.b0 (λb O=>⟨bh b O.2.1 O.1,O.2.1,O.2.2⟩) _ _ az⟩
theorem Gr.aj(h:Gr P B e z w A n c l)(O:Ext w ab):Gr P B e z ab A n c l:=h.ak O.size λb ap _=>O.block b ap λh=>h
theorem Gr.cD(h:Gr P B e z w A n c l)(O:Fr M w ab)(hM:∀b,M b->b<w.heap.size->¬P b/\b<B):Gr P B e z ab A n c l:=
 h.ak O.size λb ap hp=>O.block b ap λhm=>by
  obtain⟨ac,az⟩:=hM b hm ap;rcases hp with hp|hp
  .exact ac hp
  .omega
theorem Gr.sl(h:Gr P B e z w A n c l)(bh:∀b,b<w.heap.size->P b->Q b)(aT:∀b,b<w.heap.size->B<=b->Q b):Sl w Q A n l:=by
 obtain⟨hl,xs,ac,az⟩:=h;exact Sl.qQ ac (D.b0 (λb O=>bh b O.2.1 O.1) _ _ az) hl λg _ ac az=>aT g az ac
end
abbrev dz(S:World)(A:NH)(n c:Nat)(I:NH)(a6 aD:Nat):Prop:=∀b,(Value.slice I a6 aD).ownBlock=some b->(Value.slice A n c).ownBlock=some b\/S.heap.size<=b
section
variable {P:Program} {f:Nat->Prop} {B:Nat} {e t:TypeId} {z:Value} {size bytes:Nat}
theorem Gr.snoc{w ab:World}{A I:NH}{n c aD:Nat}{l:List D}{b2:List Value}{cV:Nat}(hl:l.length=n)(ac:w.ownsRow B e cV (.slice A n c) n xs)(az:D.aQ w (lD f w (.slice A n c)) l xs)
  (hd:d.rep w (lD f w (.slice A n c)) b2) {s:Nat} (hs:w.heap.size<=s) (aB:ab.ownsRow B e cV (.slice I (n+1) aD) (n+1) (xs++b2)) (aR:w.grownBy ab (Value.slice A n c).ownBlock)
  (O:(Value.slice I (n+1) aD).ownBlock=(Value.slice A n c).ownBlock\/(Value.slice I (n+1) aD).ownBlock=some s):Gr f B e cV ab I (n+1) aD (l++[d]):=by
 refine⟨by simp[hl],_,aB,D.cS ?_ (D.bx.2 ?_)⟩
 .refine D.b0 (λb aZ=>⟨aZ.1,M0 aZ.2.1 aR.size,λhc=>?_⟩) _ _ (D.bZ (λb aZ=>aR.block b aZ.2.1 λhe=>aZ.2.2 he.symm) _ _ az);exact yp
 .refine D.aM (λb aZ=>⟨aZ.1,M0 aZ.2.1 aR.size,λhc=>?_⟩) _ _ (D.aO (λb aZ=>aR.block b aZ.2.1 λhe=>aZ.2.2 he.symm) _ _ hd);exact yp
namespace CN
theorem Cv(h:p:=by
 exact h I aD ab (Gr.snoc hl ac az hd (s:=S.heap.size+1) ad bR aR (by simpa using H)) (NC.grown aR λg aR=>.inl aR) (λb O=>by
  rcases H with H|H
  .rw[H] at O;exact .inl O
  .rw[H] at O;injection O with O;right;simp at O;omega) hc
 ):p:=h
end CN
open CN in
theorem rA{Q:Exit->Act->World->Prop}(bF:cq P t e z size bytes)(s x:Operand)
  (bD:o.op=.call {callee:=.builtin .append,args:=#[s,x],argTypes:=#[t,t]})
  {A:NH} {n c:Nat} {l:List D} (h0:Gr f B e size S A n c l) {d:D} {cs:Array Value} (hd:d.rep S (lD f S (.slice A n c)) cs.toList)
  (hs:a.eval s=.slice A n c) (hx:a.eval x=.slice (some ⟨S,0,none⟩) 1 1) (T:cs.size=size)
  (r:(n+1)*bytes<=140737488355328) (y:n+1<=140737488355328) (C:B<=S.heap.size)
  (h:∀I aD ab,Gr f B e size ab I (n+1) aD (l++[d])->Fr (λb=>(Value.slice A n c).ownBlock=some b) S ab->dz S A n c I (n+1) aD->n+1<=aD->K (a.put o.dst (.slice I (n+1) aD)) ab):o.wp P a (S.alloc (.cells cs e)) K Q:=by
 obtain⟨hl,xs,ac,az⟩:=h0;refine kx _ bF s x bD B _ n xs hs (ac.alloc _) _ 1 1 cs.toList hx (Src.block (heap_alloc_new S _) 1 ad (D.tX _ _ hd)) r y (by simp;omega) (λh=>nomatch h) λG ab bR cS H=>?_;exact Cu
theorem bJ{ops:Array Oper}{rest:List Oper}{Q:Exit->Act->World->Prop}(bF:cq P t e z size bytes)(i:o.guard=none)(s x:Operand)
  (bD:o.op=.call {callee:=.builtin .append,args:=#[s,x],argTypes:=#[t,t]})
  {A:NH} {n c:Nat} {l:List D} (h0:Gr f B e size S A n c l) {d:D} {cs:Array Value} (hd:d.rep S (lD f S (.slice A n c)) cs.toList)
  (hs:a.eval s=.slice A n c) (hx:a.eval x=.slice (some ⟨S,0,none⟩) 1 1) (T:cs.size=size)
  (r:(n+1)*bytes<=140737488355328) (y:n+1<=140737488355328) (C:B<=S.heap.size)
  (h:∀I aD ab,Gr f B e size ab I (n+1) aD (l++[d])->Fr (λb=>(Value.slice A n c).ownBlock=some b) S ab->dz S A n c I (n+1) aD->n+1<=aD->wpList P ops Q rest (a.put o.dst (.slice I (n+1) aD)) ab):wpList P ops Q (o::rest) a (S.alloc (.cells cs e)):=
 wpList_plain i λ_ hK=>rA bF s x bD h0 hd hs hx T r y C λI aD ab cd g2 cA c6=>hK _ _ (h I aD ab cd g2 cA c6)
theorem Gr.IP{w ab:World}{A I:NH}{n m c aD:Nat}{l k:List D}{b2:List Value}{cV:Nat}(hl:l.length=n)(hm:k.length=m)(ac:w.ownsRow B e cV (.slice A n c) n xs)(az:D.aQ w (lD f w (.slice A n c)) l xs)
  (hd:D.aQ w (lD f w (.slice A n c)) k b2) {s:Nat} (hs:w.heap.size<=s) (aB:ab.ownsRow B e cV (.slice I (n+m) aD) (n+m) (xs++b2)) (aR:w.grownBy ab (Value.slice A n c).ownBlock)
  (O:(Value.slice I (n+m) aD).ownBlock=(Value.slice A n c).ownBlock\/(Value.slice I (n+m) aD).ownBlock=some s):Gr f B e cV ab I (n+m) aD (l++k):=by
 refine⟨by simp[hl,hm],_,aB,D.cS ?_ ?_⟩
 .refine D.b0 (λb aZ=>⟨aZ.1,M0 aZ.2.1 aR.size,λhc=>?_⟩) _ _ (D.bZ (λb aZ=>aR.block b aZ.2.1 λhe=>aZ.2.2 he.symm) _ _ az);exact yp
 .refine D.b0 (λb aZ=>⟨aZ.1,M0 aZ.2.1 aR.size,λhc=>?_⟩) _ _ (D.bZ (λb aZ=>aR.block b aZ.2.1 λhe=>aZ.2.2 he.symm) _ _ hd);exact yp
theorem Gn{Q:Exit->Act->World->Prop}(bF:cq P t e z size bytes)(s x:Operand)
  (bD:o.op=.call {callee:=.builtin .append,args:=#[s,x],argTypes:=#[t,t]})
  {A A2:NH} {n c m c2:Nat} {l k:List D} (h0:Gr f B e size S A n c l) (aj:Sl S (lD f S (.slice A n c)) A2 m k) (aI:∀d∈k,d.sz=size)
  (hs:a.eval s=.slice A n c) (hx:a.eval x=.slice A2 m c2)
  (r:(n+m)*bytes<=140737488355328) (y:n+m<=140737488355328) (C:B<=S.heap.size)
  (h:∀I aD ab,Gr f B e size ab I (n+m) aD (l++k)->Fr (λb=>(Value.slice A n c).ownBlock=some b) S ab->dz S A n c I (n+m) aD->n+m<=aD->K (a.put o.dst (.slice I (n+m) aD)) ab):o.wp P a S K Q:=by
 obtain⟨hl,xs,ac,az⟩:=h0;obtain⟨b2,ba,aw⟩:=aj.src aI;refine kx _ bF s x bD B _ n xs hs ac _ m c2 b2 hx aw r y C (λh=>(by subst h;exact aj.none_)) λG ab bR cS H=>?_;obtain⟨I,aD,rfl,hc,_⟩:=bG bR;exact h I aD ab (Gr.IP hl aj.1 ac az ba (s:=S.heap.size) (MU _) bR cS H) (NC.grown cS λg aR=>.inl aR) (λb O=>by
  rcases H with H|H
  .rw[H] at O;exact .inl O
  .rw[H] at O;injection O with O;right;omega) hc
theorem ya{ops:Array Oper}{rest:List Oper}{Q:Exit->Act->World->Prop}(bF:cq P t e z size bytes)(i:o.guard=none)(s x:Operand)
  (bD:o.op=.call {callee:=.builtin .append,args:=#[s,x],argTypes:=#[t,t]})
  {A A2:NH} {n c m c2:Nat} {l k:List D} (h0:Gr f B e size S A n c l) (aj:Sl S (lD f S (.slice A n c)) A2 m k) (aI:∀d∈k,d.sz=size)
  (hs:a.eval s=.slice A n c) (hx:a.eval x=.slice A2 m c2)
  (r:(n+m)*bytes<=140737488355328) (y:n+m<=140737488355328) (C:B<=S.heap.size)
  (h:∀I aD ab,Gr f B e size ab I (n+m) aD (l++k)->Fr (λb=>(Value.slice A n c).ownBlock=some b) S ab->dz S A n c I (n+m) aD->n+m<=aD->wpList P ops Q rest (a.put o.dst (.slice I (n+m) aD)) ab):wpList P ops Q (o::rest) a S:=
 wpList_plain i λ_ hK=>Gn bF s x bD h0 aj aI hs hx r y C λI aD ab cd g2 cA c6=>hK _ _ (h I aD ab cd g2 cA c6)
end
structure lS(B:Nat)(e1:TypeId)(cj:Nat)(e2:TypeId)(cB:Nat)(w:World)(A:NH)(n c:Nat)(l:List D)(I:NH)(a6 aD:Nat)(ag:List D):Prop where
 one:Gr (λb=>B<=b/\(Value.slice I a6 aD).ownBlock≠some b) B e1 cj w A n c l
 two:Gr (λb=>B<=b/\(Value.slice A n c).ownBlock≠some b) B e2 cB w I a6 aD ag
 ne:∀b,(Value.slice A n c).ownBlock=some b->(Value.slice I a6 aD).ownBlock≠some b
section
variable {B:Nat} {e1 e2:TypeId} {cj cB:Nat} {w ab:World} {A I A2:NH} {n c a6 aD n2 c2:Nat} {l ag dk:List D}
theorem lS.nil(B:Nat)(e1:TypeId)(cj:Nat)(e2:TypeId)(cB:Nat)(w:World):lS B e1 cj e2 cB w none 0 0 [] none 0 0 []:=⟨Gr.nil _ _ _ _ _,Gr.nil _ _ _ _ _,λb h=>by cases h⟩
theorem lS.swap(h:lS B e1 cj e2 cB w A n c l I a6 aD ag):lS B e2 cB e1 cj w I a6 aD ag A n c l:=⟨h.two,h.one,λb ac az=>h.ne b az ac⟩
theorem lS.cD(h:lS B e1 cj e2 cB w A n c l I a6 aD ag)(O:Fr M w ab)(hM:∀b,M b->b<w.heap.size->b<B):lS B e1 cj e2 cB ab A n c l I a6 aD ag:=by
 refine⟨h.one.dm O.size λb ap hp=>O.block b ap λhm=>?_,h.two.dm O.size λb ap hp=>O.block b ap λhm=>?_,h.ne⟩
 .have:=hM b hm ap;rcases hp with hp|hp
  .have:=hp.1;omega
  .have:=(h.one.lt hp).1;omega
 .have:=hM b hm ap;rcases hp with hp|hp
  .have:=hp.1;omega
  .have:=(h.two.lt hp).1;omega
theorem lS.aj(h:lS B e1 cj e2 cB w A n c l I a6 aD ag)(O:Ext w ab):lS B e1 cj e2 cB ab A n c l I a6 aD ag:=h.cD O λ_ h _=>h.elim
theorem lS.grow(h:lS B e1 cj e2 cB w A n c l I a6 aD ag)(aR:Gr (λb=>B<=b/\(Value.slice I a6 aD).ownBlock≠some b) B e1 cj ab A2 n2 c2 dk)(J:Fr (λb=>(Value.slice A n c).ownBlock=some b) w ab)(bD:dz w A n c A2 n2 c2) :
  lS B e1 cj e2 cB ab A2 n2 c2 dk I a6 aD ag:=by
 have ac:Gr (λb=>(B<=b/\(Value.slice A n c).ownBlock≠some b)/\(Value.slice A2 n2 c2).ownBlock≠some b) B e2 cB w I a6 aD ag:=h.two.mono λb ap hp=>⟨hp,λO=>by
  rcases bD b O with ac|ac
  .exact hp.2 ac
  .omega⟩
 have az:=ac.dm J.size λb ap hp=>J.block b ap λhm=>by
  rcases hp with hp|hp
  .exact hp.1.2 hm
  .exact h.ne b hm hp
 refine⟨aR,az.mono λb _ hp=>⟨hp.1.1,hp.2⟩,λb O az=>?_⟩;rcases bD b O with ac|ac
 .exact h.ne b ac az
 .have:=(h.two.lt az).2;omega
end
theorem Gr.lit{P:Nat->Prop}{w:World}{e:TypeId}{z n:Nat}{l:List D}(hl:l.length=n)(T:cs.size=n*z)(hn:n<=1000000)(ba:D.aQ w (λb=>P b/\b<w.heap.size) l cs.toList):
  Gr P w e z (w.alloc (.cells cs e)) (some ⟨w,0,none⟩) n n l:=by
 refine⟨hl,cs.toList,World.ownsRow_lit w _ n (MU _) (by unfold maxLen;omega) T,?_⟩;refine D.b0 (λb O=>⟨O.1,by have:=O.2;simp;omega,λhc=>?_⟩) _ _ (D.bZ (λb O=>Below.heap_alloc w _ b O.2) _ _ ba);simp[Value.ownBlock] at hc;have:=O.2;omega
def sj(g:Nat):World->Nat->List Value->World
 | V,_,[]=>V
 | V,i,v::vs=>sj g (V.setCell ⟨g,i,none⟩ v) (i+1) vs
def jv:Array Value->Nat->List Value->Array Value
 | cs,_,[]=>cs
 | cs,i,v::vs=>jv (cs.setIfInBounds i v) (i+1) vs
theorem mH:∀(vs:List Value) (i:Nat) (cs:Array Value),i+vs.length<=cs.size->(jv cs i vs).toList=cs.toList.take i++vs++cs.toList.drop (i+vs.length)
 | [],i,cs,_=>by simp[jv]
 | v::vs,i,cs,h=>by
  simp only[Nh] at h;rw[jv,mH vs (i+1) _ (by simp;omega),Array.toList_setIfInBounds];have aN:i<cs.toList.length:=by simp;omega
  rw[List.take_succ_eq_append_getElem (by simpa using aN),List.take_set_of_le (MU _),List.drop_set_of_lt ad];simp[Nat.add_assoc,Nat.add_comm 1]
theorem lz{g:Nat}{t:TypeId}:∀(vs:List Value) (i:Nat) (V:World) (cs:Array Value),an V g t cs->an (sj g V i vs) g t (jv cs i vs)
 | [],_,_,_,h=>h
 | _::vs,i,_,_,h=>lz vs (i+1) _ _ (h.aK i _)
theorem jT{g:Nat}:∀(vs:List Value) (i:Nat) (V:World),Fr (λb=>b=g) V (sj g V i vs)
 | [],_,_=>NC
 | _::vs,i,_=>Fr.trans ((Fr.refl (λb=>b=g) _).setCell (.inl rfl) _) (jT vs (i+1) _)
theorem a9{w X V:World}{g:Nat}{t:TypeId}(vs:List Value)(hs:cs.size=vs.length)(aT:an V g t cs)(aF:Ext w V)(aR:w.heap.size<=g)(hX:sj g V 0 vs=X):
  an X g t vs.toArray/\Ext w X/\Fr (λb=>b=g) V X:=by
 subst hX;have J:=jT (g:=g) vs 0 V;refine⟨?_,Fr.low (M:=λb=>b=g) (Fr.trans (Fr.mono aF λ_ h=>h.elim) J) λk aj=>by subst aj;exact aR,J⟩;have ac:=lz vs 0 V cs aT;have az:jv cs 0 vs=vs.toArray:=by
  apply Array.toList_inj.1
  rw[mH vs 0 cs ad];simp;omega
 rwa [az] at ac
section
variable {P:Program} {f:Nat->Prop} {B:Nat} {e t:TypeId} {z:Value} {size bytes:Nat}
theorem fq{Q:Exit->Act->World->Prop}(bF:cq P t e z size bytes)(s x:Operand)
  (bD:o.op=.call {callee:=.builtin .append,args:=#[s,x],argTypes:=#[t,t]})
  {A:NH} {n c g:Nat} {l:List D} (h0:Gr f B e size S A n c l) {d:D} {cs:Array Value} {i:TypeId} (aT:an S g i cs) (hd:d.rep S (lD f S (.slice A n c)) cs.toList)
  (hs:a.eval s=.slice A n c) (hx:a.eval x=.slice (some ⟨g,0,none⟩) 1 1) (T:cs.size=size)
  (r:(n+1)*bytes<=140737488355328) (y:n+1<=140737488355328) (C:B<=S.heap.size)
  (h:∀I aD ab,Gr f B e size ab I (n+1) aD (l++[d])->Fr (λb=>(Value.slice A n c).ownBlock=some b) S ab->dz S A n c I (n+1) aD->n+1<=aD->K (a.put o.dst (.slice I (n+1) aD)) ab):o.wp P a S K Q:=by
 obtain⟨hl,xs,ac,az⟩:=h0;have aw:Src S size (some ⟨g,0,none⟩) 1 cs.toList:=⟨by simpa using T,D.tX _ _ hd,λ_=>⟨g,0,rfl,λj u bi=>by
  rw[Nm,aT.cell];simpa using bi⟩⟩
 refine kx _ bF s x bD B _ n xs hs ac _ 1 1 cs.toList hx aw r y C (λh=>nomatch h) λG ab bR cS H=>?_;obtain⟨I,aD,rfl,hc,_⟩:=bG bR;refine h I aD ab (Gr.snoc hl ac az hd (s:=S.heap.size) (MU _) bR cS H) (NC.grown cS λg aR=>.inl aR) (λb O=>?_) hc;exact AO
theorem yb{Q:Exit->Act->World->Prop}(bF:cq P t e z size bytes)(s x:Operand)
  (bD:o.op=.call {callee:=.builtin .append,args:=#[s,x],argTypes:=#[t,t]})
  {A A2:NH} {n c m c2:Nat} {l k:List D} {b2:List Value} (h0:Gr f B e size S A n c l) (ba:D.aQ S (lD f S (.slice A n c)) k b2) (aj:k.length=m) (aw:Src S size A2 m b2) (hn:A2=none->m=0)
  (hs:a.eval s=.slice A n c) (hx:a.eval x=.slice A2 m c2)
  (r:(n+m)*bytes<=140737488355328) (y:n+m<=140737488355328) (C:B<=S.heap.size)
  (h:∀I aD ab,Gr f B e size ab I (n+m) aD (l++k)->Fr (λb=>(Value.slice A n c).ownBlock=some b) S ab->dz S A n c I (n+m) aD->n+m<=aD->K (a.put o.dst (.slice I (n+m) aD)) ab):o.wp P a S K Q:=by
 obtain⟨hl,xs,ac,az⟩:=h0;refine kx _ bF s x bD B _ n xs hs ac _ m c2 b2 hx aw r y C hn λG ab bR cS H=>?_;obtain⟨I,aD,rfl,hc,_⟩:=bG bR;refine h I aD ab (Gr.IP hl aj ac az ba (s:=S.heap.size) (MU _) bR cS H) (NC.grown cS λg aR=>.inl aR) (λb O=>?_) hc;exact AO
theorem rz{ops:Array Oper}{rest:List Oper}{Q:Exit->Act->World->Prop}(bF:cq P t e z size bytes)(i:o.guard=none)(s x:Operand)
  (bD:o.op=.call {callee:=.builtin .append,args:=#[s,x],argTypes:=#[t,t]})
  {A A2:NH} {n c m c2:Nat} {l k:List D} {b2:List Value} (h0:Gr f B e size S A n c l) (ba:D.aQ S (lD f S (.slice A n c)) k b2) (aj:k.length=m) (aw:Src S size A2 m b2) (hn:A2=none->m=0)
  (hs:a.eval s=.slice A n c) (hx:a.eval x=.slice A2 m c2)
  (r:(n+m)*bytes<=140737488355328) (y:n+m<=140737488355328) (C:B<=S.heap.size)
  (h:∀I aD ab,Gr f B e size ab I (n+m) aD (l++k)->Fr (λb=>(Value.slice A n c).ownBlock=some b) S ab->dz S A n c I (n+m) aD->n+m<=aD->wpList P ops Q rest (a.put o.dst (.slice I (n+m) aD)) ab):wpList P ops Q (o::rest) a S:=
 wpList_plain i λ_ hK=>yb bF s x bD h0 ba aj aw hn hs hx r y C λI aD ab cd g2 cA c6=>hK _ _ (h I aD ab cd g2 cA c6)
theorem jG{Q:Exit->Act->World->Prop}(bF:cq P t e z size bytes)(s x:Operand)
  (bD:o.op=.call {callee:=.builtin .append,args:=#[s,x],argTypes:=#[t,t]})
  {A2:NH} {g m c2:Nat} {k:List D} {b2:List Value} (h0:Gr f B e size S (some ⟨g,0,none⟩) 0 0 []) (ba:D.aQ S (lD f S (.slice (some ⟨g,0,none⟩) 0 0)) k b2) (aj:k.length=m) (aw:Src S size A2 m b2) (hn:A2=none->m=0)
  (hs:a.eval s=.slice (some ⟨g,0,none⟩) 0 0) (hx:a.eval x=.slice A2 m c2)
  (r:m*bytes<=140737488355328) (y:m<=140737488355328) (C:B<=S.heap.size)
  (h:∀I aD ab,Gr f B e size ab I m aD k->Fr (λb=>b=g) S ab->(∀b,(Value.slice I m aD).ownBlock=some b->b=g\/S.heap.size<=b)->m<=aD->K (a.put o.dst (.slice I m aD)) ab):o.wp P a S K Q:=by
 refine yb bF s x bD h0 ba aj aw hn hs hx (by rw[Nm];exact r) ad C λI aD ab cd g2 cA c6=>?_;simp only[Nm,Nu] at cd cA c6 ⊢;exact h I aD ab cd (g2.mono λb O=>by simp[Value.ownBlock] at O;exact O.symm) (λb O=>(cA b O).imp (λh=>by simp[Value.ownBlock] at h;exact h.symm) id) c6
end
section
variable {P:Program} {ops:Array Oper} {Q:Exit->Act->World->Prop} {R:World->World->Prop} {tails:List Nat}
theorem jg{δ:Type}{aa:α->β->γ->δ->Act}{C:α->β->γ->δ->World->Prop}(h:(∀x y z u V,C x y z u V->cY P ops Q R tails rest (aa x y z u) V)->G)(key:∀x y z u V,C x y z u V->cY P ops Q R tails rest (aa x y z u) V):G:=h key
theorem jf{aa:α->β->γ->Act}{C:α->β->γ->World->Prop}(h:(∀x y z V,C x y z V->cY P ops Q R tails rest (aa x y z) V)->G)(key:∀x y z V,C x y z V->cY P ops Q R tails rest (aa x y z) V):G:=h key
theorem rq{aa:α->β->Act}{C:α->β->World->Prop}(h:(∀x y V,C x y V->cY P ops Q R tails rest (aa x y) V)->G)(key:∀x y V,C x y V->cY P ops Q R tails rest (aa x y) V):G:=h key
theorem x3{aa:α->Act}{C:α->World->Prop}(h:(∀x V,C x V->cY P ops Q R tails rest (aa x) V)->G)(key:∀x V,C x V->cY P ops Q R tails rest (aa x) V):G:=h key
end
theorem Jm{w a b:World}(ac:Ext w a)(az:Ext w b)(hs:a.heap.size=w.heap.size+1)(bO:a.heap.size<=b.heap.size):Fr (λk=>k=w.heap.size) a b:=
 ⟨az.os.trans ac.os.symm,az.tape.trans ac.tape.symm,az.output.trans ac.output.symm,bO,λk aj hn=>(az.block k ad λh=>h).trans (ac.block k ad λh=>h).symm⟩
theorem xe{P:Nat->Prop}{w ab:World}{cs:List Value}(h:d.rep w (lD P w v) cs)(he:Ext w ab):d.rep ab (lD P ab v) cs:=
 D.aM (λb O=>⟨O.1,M0 O.2.1 he.size,O.2.2⟩) _ _ (D.aO (λb O=>he.block b O.2.1 λh=>h) _ _ h)
section
attribute [local go_sem ↓] gI gJ
theorem qS{w:World}{base:Nat}{e:TypeId}{A:NH}{n c:Nat}(h:w.ownsRow base e sz (.slice A n c) n xs):n<=c/\(A=none->n=0):=by
 rcases h.2 with⟨bK,h0⟩|⟨g,cap,cur,bK,_,_,aQ,_⟩
 .injection bK with ac az aV;exact⟨ad,λ_=>h0⟩
 .injection bK with ac az aV;subst ac aV;exact⟨aQ,(λh=>nomatch h)⟩
theorem mD(A:NH)(n c:Nat)(X:List bM)(w:World)(h:cp (EF hA) 3 w w A n X)(hX:po X) :
  Calls prog 85 #[.slice A n c] w λr ab=>∃I aD,r=.returned (.slice I (own X).length aD)/\(own X).length<=aD/\cp (EF bQ) 1 ab ab I (own X).length (own X)/\Below w w ab:=by
 have hl:=h.1;have hn:=hX.1;go_enter func85,ntmps85;go_wp2;go_loopw [3,4] (λv i wr=>∃k:Nat,k<=n/\i=.int .i64 k/\wr.ownsRow w 3 1 v (iZ X k).length ((iZ X k).flatMap bQ)/\Below w w wr) (λ_ i _=>n - (intOf i).toNat)
 case atStart=>exact⟨0,Nq _,rfl,by rw[qR];exact World.ownsRow_nil _ _ _ _,Below.refl _ _⟩
 case round=>
  obtain⟨k,aj,rfl,aB,O⟩:=hrel;by_cases ap:k<n
  .have dX:∃m,X[k]?=some m:=⟨_,List.getElem?_eq_getElem ad⟩
   obtain⟨m,hm⟩:=dX;have b2:=hX.at_ hm;have dX:=ae hm;clear hm;go_wp2;obtain⟨cD,rfl⟩:∃cD:World,cD=wr:=⟨_,rfl⟩
   go_loopw [3,5] (λv i wr=>∃j:Nat,j<=m.qN/\i=.int .i64 j/\wr.ownsRow w.heap.size 3 1 v ((iZ X k).length+j) ((iZ X k++List.replicate j (k:Int)).flatMap bQ)/\Below w w wr) (λ_ i _=>m.qN - (intOf i).toNat)
   case atStart=>exact⟨0,Nq _,rfl,by simpa using aB,O⟩
   case round=>
    obtain⟨j,bi,rfl,f,aZ⟩:=hrel;clear aB;obtain⟨b,o,bW,rfl,ao,hm,c0,c1,c2⟩:=(h.fA aZ).K4 ap;obtain rfl:bW=m:=by have:=dX.o;rw[hm] at this;injection this
    have b3:=aZ.size;have K:(bW.qN:Int)=max bW.size 1:=bW.tR;have d:=gG X k ad;have u:=hX.mR k;clear hm;by_cases cG:j<bW.qN
    .have cn:(j:Int)<max bW.size 1:=ad;have e:(iZ X k).length+j+1<=5000:=ad;obtain⟨b7,a2⟩:=aJ K d;clear K d;go_wp2_with(at_builtin;refine b9 _ cF (by rfl) (.tmp 22) (.tmp 24) (by rfl) w _ _ _ _ (by rfl) f (by rfl) (by rfl) (hL _ _) ad ad b3 ?_;intro v1 aO aA aY bC);go_roundw
     case rel=>
      refine⟨j+1,ad,by go_num,?_,dy aZ f aY (MU _) b3⟩;rw[List.replicate_succ',<-List.append_assoc,dT];exact aA
     case measure=>exact aH
    .obtain rfl:j=bW.qN:=ad;have bd:¬((bW.qN:Int)<max bW.size 1):=ad;obtain⟨b7,a2⟩:=aJ K d;clear K d;go_wp2;go_roundw
     case rel=>
      refine⟨k+1,ad,by go_num,?_,aZ⟩;rw[kn dX.o,M3,List.length_replicate];exact f
     case measure=>exact aH
  .obtain rfl:k=n:=ad;obtain⟨cR,c1,rfl,c4,_,_,_⟩:=bG aB;have bT:=ae hl;clear hl;go_wp2;go_ret;have he:own X=iZ X k:=by unfold own;rw[bT.o]
   rw[he];exact⟨_,_,rfl,c4,gH aB (gE _) rfl,O⟩
theorem vA(A:NH)(n c:Nat)(X:List bM)(m:Int)(w:World)(h:cp (EF hA) 3 w w A n X)(hX:po X) :
  Calls prog 120 #[.slice A n c,m] w λr ab=>r=.returned (.int .i64 (e6 X m))/\Below w w ab:=by
 go_enter func120,ntmps120;go_wp2_with(fail);refine(mD A n c X w h hX).mono ?_;rintro e aO ⟨cR,c1,rfl,c4,ba,O⟩;have ai:=dx hX;have hl:=h.1;generalize hN:(own X).length=N at *;obtain⟨b7,bT⟩:=aJ hN hl;clear hN hl;go_wp2
 go_loop [6] (λi=>∃k:Nat,k<=N/\i=.int .i64 k/\∀j,j<k->(own X)[j]?≠some m) (λi=>N - (intOf i).toNat)
 case atStart=>exact⟨0,Nq _,rfl,λj bi=>absurd bi ad⟩
 case round=>
  obtain⟨k,aj,rfl,bY⟩:=hrel;have aY:=ae bY;clear bY;by_cases ap:k<N
  .obtain⟨b,o,x,rfl,ao,hx,c0⟩:=ba.int ap;have aP:=ae hx;clear hx;by_cases ag:x=m
   .subst ag;have a3:=ae (show e6 X x=k by
     obtain⟨i,g,bK,P,ac,az⟩:=Hg aP.o;have aN:i<X.length:=(List.getElem?_eq_some_iff.1 P).1;rw[bK,nM aN];have J:=sD aN;rcases Int.lt_or_le (elems (X.take i)) k with ap|hle
     .exact absurd (by rw[J,bK]) (aY.o (elems (X.take i)).toNat (by have:=(hX.mR i).1;omega))
     .omega)
    exact r0
   .have bl:(x == m)=false:=by simpa using ag
    go_wp2
    go_round
    case rel=>
     refine⟨k+1,ad,by go_num,λj bi=>?_⟩;by_cases aw:j<k
     .exact aY.o j aw
     .obtain rfl:j=k:=ad;rw[aP.o];intro he;injection he with he;exact ag he
    case measure=>exact aH
  .obtain rfl:k=N:=ad;have a3:=ae (show e6 X m = -1 by
    apply mj
    rcases Int.lt_or_le m 0 with h0|h0
    .exact .inl h0
    .rcases Int.lt_or_le m X.length with ac|ac
     .exfalso;have J:=sD (X:=X) (k:=m.toNat) ad;have ap:=(List.getElem?_eq_some_iff.1 J).1;rw[b7.o] at ap;exact aY.o _ ap (by rw[J];congr 1;omega)
     .exact .inr ac)
   exact r0
theorem k3(A:NH)(n c:Nat)(X:List bM)(m:Int)(w:World)(h:cp (EF hA) 3 w w A n X)(hX:po X) :
  Calls prog 122 #[.slice A n c,m] w λr ab=>r=.returned (.int .i64 (bF X m))/\Below w w ab:=by
 go_enter func122,ntmps122;go_wp2_with(fail);refine(mD A n c X w h hX).mono ?_;rintro e aO ⟨cR,c1,rfl,c4,ba,O⟩;have ai:=dx hX;have aR:=gf X;generalize hN:(own X).length=N at *;obtain⟨b7,bk⟩:=aJ hN aR;clear hN aR;by_cases h0:m<0
 .have a3:=ae (show bF X m = -1 from jr h0);exact r0
 by_cases ac:(N:Int)<=m
 .have a3:=ae (show bF X m = -1 from js (ax bk.o));exact r0
 obtain⟨k,rfl⟩:=M6 (show 0<=m by omega);obtain⟨b,o,x,rfl,ao,hx,c0⟩:=ba.int (show k<N by omega);have a3:=ae (show bF X k=x by unfold bF;rw[if_neg ad,Np,hx];rfl);have aD:k<N:=ad;clear hx ac h0;exact r0
end
section
attribute [local go_sem ↓] gI gJ
def kF(T:List di)(e:Int):di:=(T[e.toNat]?).getD ⟨0,0⟩
def Hn(X:List bM)(i:Int):Bool:=((X[i.toNat]?).map bM.re).getD false
def free(X:List bM)(T:List di)(e th:Int):Bool:=
 decide (0<=bF X e/\0<=th) && ((kF T e).owner == 0 || ((kF T e).owner == th+1 && Hn X (bF X e)))
def heldBy(X:List bM)(T:List di)(e th:Int):Bool:=decide (0<=bF X e/\0<=th) && (kF T e).owner == th+1
def fJ(X:List bM)(T:List di)(e th:Int):List di:=if free X T e th then T.set e.toNat ⟨th+1,(kF T e).depth+1⟩ else T
def down(h:di):di:=⟨if h.depth - 1=0 then 0 else h.owner,h.depth - 1⟩
def c8(X:List bM)(T:List di)(e th:Int):List di:=if heldBy X T e th then T.set e.toNat (down (kF T e)) else T
structure GF(X:List bM)(T:List di):Prop where
 len:T.length=(own X).length
 bound:∀h∈T,0<=h.owner/\h.owner<=1000000000/\0<=h.depth/\h.depth<=1000000000
theorem GF.at_(h:GF X T){e:Int}(he:0<=bF X e):∃k m hd,e=(k:Nat)/\k<T.length/\T[k]?=some hd/\kF T e=hd/\bF X e=(m:Nat)/\m<X.length:=by
 obtain⟨h0,ac⟩:=gm.1 he;obtain⟨i,g,aN,hm,_⟩:=tP he;obtain⟨k,rfl⟩:=M6 h0;have hl:=gf X;have aj:k<T.length:=by rw[h.len];omega
 exact⟨k,i,T[k],rfl,aj,List.getElem?_eq_getElem aj,by unfold kF;rw[Np,List.getElem?_eq_getElem aj];rfl,aN,(List.getElem?_eq_some_iff.1 hm).1⟩
theorem qx{e th:Int}(h:¬(0<=bF X e/\0<=th)):free X T e th=false:=by
 unfold free;rw[decide_eq_false h];rfl
theorem kj{e th:Int}(h:¬(0<=bF X e/\0<=th)):heldBy X T e th=false:=by
 unfold heldBy;rw[decide_eq_false h];rfl
theorem fu(X:List bM)(T:List di)(e th:Int):(fJ X T e th).length=T.length:=by
 unfold fJ;split<;>simp
theorem fp(X:List bM)(T:List di)(e th:Int):(c8 X T e th).length=T.length:=by
 unfold c8;split<;>simp
namespace Du
theorem Bk(h:p:=by
 by_cases ci:hd.owner=th+1
 .have a2:=ae ci;have i:=ae cc;have a:(hd.owner - 1 == th)=true:=by simp;omega
  exact ys
 .have a2:=ae (show (hd.owner == th+1)=false by simpa using ci);have i:=ae cc;have a:(hd.owner - 1 == th)=false:=by simp;omega
  exact ys
 ):p:=h
end Du
open Du in
theorem E6(A A2:NH)(n c n2 c2:Nat)(X:List bM)(T:List di)(e th:Int)(w:World)(h:cp (EF hA) 3 w w A n X)(hX:po X)
  (ht:cp (EF ch) 2 w w.heap.size A2 n2 T) (hT:GF X T) (he:e<=9223372036854775807) (bq:th<=4611686018427387904) :
  Calls prog 53 #[.slice A n c,.slice A2 n2 c2,e,th] w λr ab=>r=.returned (.bool (free X T e th))/\Below w w ab:=by
 go_enter func53,ntmps53;go_wp2_with(fail);refine(vl A n c X e w h hX he).mono ?_;exact Bj
namespace Dv
theorem Bk(h:p:=by
 by_cases ci:hd.owner=th+1
 .have a2:=ae ci;have i:=ae cc;have a:(hd.owner == th+1)=true:=by simp;omega
  exact ys
 .have a2:=ae (show (hd.owner == th+1)=false by simpa using ci);have i:=ae cc;have a:(hd.owner == th+1)=false:=by simp;omega
  exact ys
 ):p:=h
end Dv
open Dv in
theorem vB(A A2:NH)(n c n2 c2:Nat)(X:List bM)(T:List di)(e th:Int)(w:World)(h:cp (EF hA) 3 w w A n X)(hX:po X)
  (ht:cp (EF ch) 2 w w.heap.size A2 n2 T) (hT:GF X T) (bq:th<=4611686018427387904) :
  Calls prog 121 #[.slice A n c,.slice A2 n2 c2,e,th] w λr ab=>r=.returned (.bool (free X T e th))/\Below w w ab:=by
 go_enter func121,ntmps121;go_wp2_with(fail);refine(k3 A n c X e w h hX).mono ?_;exact Bj
theorem nO(A:NH)(n c:Nat)(T:List di)(w:World)(ht:cp (EF ch) 2 w w.heap.size A n T)(hn:n<=5000) :
  Calls prog 59 #[.slice A n c] w λr ab=>∃I aD,r=.returned (.slice I n aD)/\ab.ownsRow w 138 2 (.slice I n aD) n (T.flatMap ch)/\Below w w ab:=by
 have heq:=λW=>sN (P:=prog) W 27 138 A n c 0 0 Tryz.underlying27;rcases A with _|a
 .have bf:n=0:=by
   rcases Nat.eq_zero_or_pos n with h0|h0
   .exact h0
   .obtain⟨b,o,h,_⟩:=ht.2 h0;cases h
  subst bf;have hT:T=[]:=List.eq_nil_of_length_eq_zero ht.1;subst hT;go_enter func59,ntmps59;exact A3
 .have aw:=Src.l0 ht (eL T) (lK T) ad;go_enter func59,ntmps59;go_wp2_with(at_builtin;refine gu _ mN (by rfl) (.tmp 5) (.tmp 6) (by rfl) (by rfl) _ _ _ _ (by rfl) aw ad ad (λh=>nomatch h) ?_;intro cR c1 aO aA b2);go_ret;exact⟨cR,c1,rfl,aA,b2⟩
theorem ja{w:World}{base a:Nat}{e:TypeId}{n:Nat}(h:w.ownsRow base e sz v n xs)(O:a<=base):w.ownsRow a e sz v n xs:=by
 refine⟨h.1,?_⟩;rcases h.2 with az|⟨g,cap,cur,rfl,j,rest⟩
 .exact .inl az
 .exact .inr ⟨g,cap,cur,rfl,ad,rest⟩
def gZ(w:World)(T:List di)(b:Bool)(r:Ending)(ab:World):Prop:=
 ∃I aD,r=.returned (.tuple #[.slice I T.length aD,.bool b])/\ab.ownsRow w.heap.size 138 2 (.slice I T.length aD) T.length (T.flatMap ch)/\Below w.heap.size w ab
theorem gZ.mk'{w ab:World}{ct:Bool}{A:NH}{n c:Nat}(hn:T.length=n)(aB:ab.ownsRow w.heap.size 138 2 (.slice A n c) n (T.flatMap ch))(O:Below w.heap.size w ab)(ao:b=ct):
  gZ w T b (.returned (.tuple #[.slice A n c,ct])) ab:=by
 subst hn ao;exact⟨A,c,rfl,aB,O⟩
theorem gZ.open_{w ab:World}{r:Ending}{n:Nat}(h:gZ w T b r ab)(hn:T.length=n):
  ∃I aD,r=.returned (.tuple #[.slice I n aD,b])/\n<=aD/\cp (EF ch) 2 ab ab I n T/\ab.ownsRow w 138 2 (.slice I n aD) n (T.flatMap ch)/\Below w w ab:=by
 subst hn;obtain⟨A,c,ba,aB,O⟩:=h;exact⟨A,c,ba,(qS aB).1,gH aB (eL T) rfl,aB,O⟩
theorem jY{w:World}{base:Nat}{A:NH}{n c k:Nat}{hd:di}(h:w.ownsRow base 138 2 (.slice A n c) n (T.flatMap ch))(aj:k<n)(hx:T[k]?=some hd):
  ∃g,A=some ⟨g,0,none⟩/\base<=g/\g<w.heap.size/\w.cell? ⟨g,k*2,none⟩=some (.int .i64 hd.owner)/\w.cell? ⟨g,k*2+1,none⟩=some (.int .i64 hd.depth)/\(∀j,w.frozen? ⟨g,j,none⟩=false)/\
   (∀x,(w.setCell ⟨g,k*2,none⟩ (.int .i64 x)).ownsRow base 138 2 (.slice A n c) n ((T.set k ⟨x,hd.depth⟩).flatMap ch))/\
   (∀x,(w.setCell ⟨g,k*2+1,none⟩ (.int .i64 x)).ownsRow base 138 2 (.slice A n c) n ((T.set k ⟨hd.owner,x⟩).flatMap ch)):=by
 obtain⟨g,bF,O,ap,hc,J,hs⟩:=iF h ad;have h0:=fX ch 2 T (eL T) k hd hx 0 ad;have ac:=fX ch 2 T (eL T) k hd hx 1 ad;refine⟨g,bF,O,ap,hc _ _ h0,hc _ _ ac,J,λx=>?_,λx=>?_⟩
 .rw[<-ke ch 2 T (eL T) k hd hx 0 x ⟨x,hd.depth⟩ ad rfl];exact hs _ _ ad
 .rw[<-ke ch 2 T (eL T) k hd hx 1 x ⟨hd.owner,x⟩ ad rfl];exact hs _ _ ad
theorem Fm(A A2:NH)(n c n2 c2:Nat)(X:List bM)(T:List di)(e th:Int)(w:World)(h:cp (EF hA) 3 w w A n X)(hX:po X)
  (ht:cp (EF ch) 2 w w.heap.size A2 n2 T) (hT:GF X T) (he:e<=9223372036854775807) (bq:th<=4611686018427387904) :
  Calls prog 63 #[.slice A n c,.slice A2 n2 c2,e,th] w (gZ w (fJ X T e th) (free X T e th)):=by
 have cm:=ht.1;have cE:n2<=5000:=by have:=dx hX;have:=hT.len;omega
 have aE:=fu X T e th;generalize aT:fJ X T e th=L at *;have bL:=ae aT;clear aT;rw[cm] at aE;have H:=ae aE;clear aE;go_enter func63,ntmps63;go_wp2_with(fail);refine(nO A2 n2 c2 T w ht cE).mono ?_;rintro r aO ⟨cR,c1,rfl,aB,O⟩;go_wp2_with(fail);have q:=h.cD O O.size;have i:=ht.cD O O.size;refine(E6 A A2 n c n2 c2 X T e th aO q hX i hT he bq).mono ?_;rintro r aW ⟨rfl,bn⟩;have b3:=O.size;have dp:=O.trans (bn.mono O.size);have S:=bV aB bn
 cases J:free X T e th with
 | false=>
  go_wp2
  go_ret2
  exact AJ
 | true=>
  have hm:0<=bF X e/\0<=th:=by
   exact AU
  obtain⟨k,m,hd,rfl,aj,d,f,P,bm⟩:=hT.at_ hm.1;have ce:k<n2:=ad;have bA:=hT.bound hd (M4 d);obtain⟨b,o,C,rfl,ao,hx,c0,cU⟩:=(ht.fA dp).hold ce;obtain rfl:hd=C:=by rw[d] at hx;injection hx
  obtain⟨g,rfl,aR,cH,e0,e1,s,F,s1⟩:=jY S ce d;have t:=s (k*2);have v:=s (k*2+1);have bx:L=T.set k ⟨th+1,hd.depth+1⟩:=by rw[<-bL.o];unfold fJ;rw[J,f];rfl
  obtain⟨bT,bZ⟩:=aJ bx J;have b4:=hm.2;have l:=ae (F (th+1));clear hx d f P bx J hm F s1 s cm;go_wp2
  go_ret2
  exact Ia
theorem vC(A A2:NH)(n c n2 c2:Nat)(X:List bM)(T:List di)(e th:Int)(w:World)(h:cp (EF hA) 3 w w A n X)(hX:po X)
  (ht:cp (EF ch) 2 w w.heap.size A2 n2 T) (hT:GF X T) (bq:th<=4611686018427387904) :
  Calls prog 91 #[.slice A n c,.slice A2 n2 c2,e,th] w (gZ w (fJ X T e th) (free X T e th)):=by
 have cm:=ht.1;have cE:n2<=5000:=by have:=dx hX;have:=hT.len;omega
 have aE:=fu X T e th;generalize aT:fJ X T e th=L at *;have bL:=ae aT;clear aT;rw[cm] at aE;have H:=ae aE;clear aE;go_enter func91,ntmps91;have aw:=Src.l0 ht (eL T) (lK T) ad;have a7:A2=none->n2=0:=λh0=>by
  exact AL
 have ca:=ae a7;clear a7;go_wp2_with(at_builtin;refine gu _ mN (by rfl) (.tmp 10) (.tmp 11) (by rfl) (by rfl) _ _ _ _ (by rfl) aw ad ad ca.o ?_;intro cR c1 aO aB O);go_wp2_with(fail);have q:=h.cD O O.size;have i:cp (EF ch) 2 aO aO cR n2 T:=gH aB (eL T) cm;refine(vB A cR n c n2 c1 X T e th aO q hX i hT bq).mono ?_;rintro r aW ⟨rfl,bn⟩;have b3:=O.size;have dp:=O.trans (bn.mono O.size);have S:=bV aB bn
 cases J:free X T e th with
 | false=>
  go_wp2
  go_ret2
  exact AJ
 | true=>
  have hm:0<=bF X e/\0<=th:=by
   exact AU
  obtain⟨k,m,hd,rfl,aj,d,f,P,bm⟩:=hT.at_ hm.1;have ce:k<n2:=ad;have bA:=hT.bound hd (M4 d);obtain⟨g,rfl,aR,cH,e0,e1,s,F,s1⟩:=jY S ce d;have t:=s (k*2);have v:=s (k*2+1);have bx:L=T.set k ⟨th+1,hd.depth+1⟩:=by rw[<-bL.o];unfold fJ;rw[J,f];rfl
  obtain⟨bT,bZ⟩:=aJ bx J;have b4:=hm.2;have l:=ae (F (th+1));clear d f P bx J hm F s1 s cm;go_wp2
  go_ret2
  exact Ia
namespace Dw
theorem Cn(h:p:=by
 obtain⟨b,o,C,rfl,ao,hx,c0,cU⟩:=(ht.fA O).hold ce;obtain rfl:hd=C:=by rw[d] at hx;injection hx
 by_cases aU:hd.owner=th+1
 case neg=>
  have J:heldBy X T k th=false:=by
   exact A1
  have bT:=ae (no J);have bZ:=ae J;have y:(hd.owner - 1 != th)=true:=by simp;omega
  clear aU no J cm d f P hm hx;go_wp2
  go_ret2
  exact rZ
 have J:heldBy X T k th=true:=by
  exact AN
 have y:(hd.owner - 1 != th)=false:=by simp;omega
 obtain⟨g,rfl,aR,cH,e0,e1,s,F,s1⟩:=jY aB ce d;have t:=s (k*2);have v:=s (k*2+1);have bx:L=T.set k (down hd):=by rw[<-bL.o];unfold c8;rw[J,f];rfl
 obtain⟨bT,bZ⟩:=aJ bx J;have z:=ae (s1 (hd.depth - 1));have N:=ae d;clear hx d f P bx J hm F s1 s cm no aU;exact H2
 ):p:=h
theorem B5(h:p:=by
 go_enter func64,ntmps64;go_wp2_with(fail);refine(nO A2 n2 c2 T w ht cE).mono ?_;rintro r aO ⟨cR,c1,rfl,aB,O⟩;have b3:=O.size;have no:heldBy X T e th=false->L=T:=λh=>by rw[<-bL.o];unfold c8;rw[h];rfl
 by_cases ac:0<=e
 case neg=>
  have J:heldBy X T e th=false:=kj (λag=>ac (gm.1 ag.1).1);have bT:=ae (no J);have bZ:=ae J;have bX:e<0:=ad;clear ac no J cm;go_wp2
  go_ret2
  exact rZ
 by_cases az:e<n2
 case neg=>
  have J:heldBy X T e th=false:=kj (λag=>by have:=(gm.1 ag.1).2;have:=b7.o;omega);have bT:=ae (no J);have bZ:=ae J;have i:(n2:Int)<=e:=ad;clear az no J cm;go_wp2
  go_ret2
  exact rZ
 have hm:0<=bF X e:=qK ac (ax b7.o);obtain⟨k,m,hd,rfl,aj,d,f,P,bm⟩:=hT.at_ hm;have ce:k<n2:=ad;exact Cm
 ):p:=h
end Dw
open Dw in
theorem x7(A A2:NH)(n c n2 c2:Nat)(X:List bM)(T:List di)(e th:Int)(w:World)(hX:po X)
  (ht:cp (EF ch) 2 w w.heap.size A2 n2 T) (hT:GF X T) (bq:th<=4611686018427387904) :
  Calls prog 64 #[.slice A n c,.slice A2 n2 c2,e,th] w (gZ w (c8 X T e th) (heldBy X T e th)):=by
 exact B4
namespace Dx
theorem Cn(h:p:=by
 obtain⟨g,rfl,aR,cH,e0,e1,s,F,s1⟩:=jY aB ce d;by_cases aU:hd.owner=th+1
 case neg=>
  have J:heldBy X T k th=false:=by
   exact A1
  have bT:=ae (no J);have bZ:=ae J;have y:(hd.owner != th+1)=true:=by simpa using aU
  clear aU no J cm d f P hm F s1 s;go_wp2
  go_ret2
  exact rZ
 have J:heldBy X T k th=true:=by
  exact AN
 have y:(hd.owner != th+1)=false:=by simpa using aU
 have t:=s (k*2);have v:=s (k*2+1);have bx:L=T.set k (down hd):=by rw[<-bL.o];unfold c8;rw[J,f];rfl
 obtain⟨bT,bZ⟩:=aJ bx J;have z:=ae (s1 (hd.depth - 1));have N:=ae d;clear d f P bx J hm F s1 s cm no aU;exact H2
 ):p:=h
theorem B5(h:p:=by
 go_enter func92,ntmps92;have aw:=Src.l0 ht (eL T) (lK T) ad;have a7:A2=none->n2=0:=λh0=>by
  exact AL
 have ca:=ae a7;clear a7;go_wp2_with(at_builtin;refine gu _ mN (by rfl) (.tmp 10) (.tmp 11) (by rfl) (by rfl) _ _ _ _ (by rfl) aw ad ad ca.o ?_;intro cR c1 aO i u);go_wp2_with(fail);have q:=h.cD u u.size;refine(k3 A n c X e aO q hX).mono ?_;rintro r aW ⟨rfl,bn⟩;have x:=u.size;have O:=u.trans (bn.mono u.size);have b3:=O.size;have aB:=bV i bn;clear bn i u x;have no:heldBy X T e th=false->L=T:=λh=>by rw[<-bL.o];unfold c8;rw[h];rfl
 by_cases hm:0<=bF X e
 case neg=>
  have J:heldBy X T e th=false:=kj (λag=>hm ag.1);have bT:=ae (no J);have bZ:=ae J;have bX:bF X e<0:=ad;clear hm no J cm;go_wp2
  go_ret2
  exact rZ
 obtain⟨k,m,hd,rfl,aj,d,f,P,bm⟩:=hT.at_ hm;have ce:k<n2:=ad;rw[P];exact Cm
 ):p:=h
end Dx
open Dx in
theorem rU(A A2:NH)(n c n2 c2:Nat)(X:List bM)(T:List di)(e th:Int)(w:World)(h:cp (EF hA) 3 w w A n X)(hX:po X)
  (ht:cp (EF ch) 2 w w.heap.size A2 n2 T) (hT:GF X T) (bq:th<=4611686018427387904) :
  Calls prog 92 #[.slice A n c,.slice A2 n2 c2,e,th] w (gZ w (c8 X T e th) (heldBy X T e th)):=by
 exact B4
end
end Go.Proofs.YtnigabjngpnbiabGreat

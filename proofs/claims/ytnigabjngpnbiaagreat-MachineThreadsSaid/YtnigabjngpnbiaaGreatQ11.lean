/- Part 11 of the proof. No condition of its own. -/
import Derived.Test.YtnigabjngpnbiaaGreatQ06
namespace Go.Proofs.YtnigabjngpnbiaaGreat
open Go.RowKit Go.Proofs.Tryz
set_option maxRecDepth 1000000
set_option maxHeartbeats 25600000
set_option linter.unusedVariables false
variable{a:Act}{cs:Array Value}{x:Int}{co xs:List Value}{k:Nat}{M:Nat->Prop}{o:Oper}{r:World}
abbrev mS(P:Nat->Prop)(w:World)(v:Value):Nat->Prop:=λb=>P b/\b<w.heap.size/\v.ownBlock≠some b
structure Gr(P:Nat->Prop)(B:Nat)(e:TypeId)(z:Nat)(w:World)(A:Kj)(n c:Nat)(l:List D):Prop where
 len:l.length=n
 ex:∃xs,w.ownsRow B e z (.slice A n c) n xs/\D.aR w (mS P w (.slice A n c)) l xs
section
variable {P Q:Nat->Prop} {B F:Nat} {e:TypeId} {z:Nat} {w J aL:World} {A:Kj} {n c:Nat} {l:List D}
theorem Gr.nil(P:Nat->Prop)(B:Nat)(e:TypeId)(z:Nat)(w:World):Gr P B e z w none 0 0 []:=⟨rfl,[],⟨by simp,.inl ⟨rfl,rfl⟩⟩,by simp only[D.aR]⟩
theorem Gr.lt(h:Gr P B e z w A n c l){g:Nat}(aS:(Value.slice A n c).ownBlock=some g):B<=g/\g<w.heap.size:=by
 obtain⟨_,xs,ac,_⟩:=h;exact ac.lt g aS
theorem Gr.cap(h:Gr P B e z w A n c l):n<=c/\c<=maxLen:=by
 obtain⟨_,xs,ac,_⟩:=h;obtain⟨_,_,bD,ap,aD,_⟩:=cj ac;injection bD with _ _ bD;subst bD;exact⟨ap,aD⟩
theorem Gr.al(h:Gr P B e z w A n c l)(hs:w.heap.size<=J.heap.size)(aj:∀b,b<w.heap.size->(P b\/B<=b)->J.heap[b]?=w.heap[b]?):Gr P B e z J A n c l:=by
 obtain⟨hl,xs,ac,ap⟩:=h;refine⟨hl,xs,⟨ac.1,?_⟩,D.bZ (λb O=>⟨O.1,JJ O.2.1 hs,O.2.2⟩) _ _ (D.bY (λb O=>aj b O.2.1 (.inl O.1)) _ _ ap)⟩;rcases ac.2 with aD|⟨g,cap,cur,bD,j,f,rest⟩
 .exact .inl aD
 .exact .inr ⟨g,cap,cur,bD,j,(aj g (Array.getElem?_eq_some_iff.1 f).1 (.inr j)).trans f,rest⟩
theorem Gr.ek(h:Gr P B e z w A n c l)(hs:w.heap.size<=J.heap.size)(aj:∀b,b<w.heap.size->(P b\/(Value.slice A n c).ownBlock=some b)->J.heap[b]?=w.heap[b]?):Gr P B e z J A n c l:=by
 obtain⟨hl,xs,ac,ap⟩:=h;refine⟨hl,xs,⟨ac.1,?_⟩,D.bZ (λb O=>⟨O.1,JJ O.2.1 hs,O.2.2⟩) _ _ (D.bY (λb O=>aj b O.2.1 (.inl O.1)) _ _ ap)⟩;rcases ac.2 with aD|⟨g,cap,cur,bD,j,f,rest⟩
 .exact .inl aD
 .exact .inr ⟨g,cap,cur,bD,j,(aj g (Array.getElem?_eq_some_iff.1 f).1 (.inr (by rw[bD];rfl))).trans f,rest⟩
theorem Gr.base{F:Nat}(h:Gr P B e z w A n c l)(aK:F<=B):Gr P F e z w A n c l:=by
 obtain⟨hl,xs,ac,ap⟩:=h;refine⟨hl,xs,⟨ac.1,?_⟩,ap⟩;rcases ac.2 with aD|⟨g,cap,cur,bD,j,f,rest⟩
 .exact .inl aD
 .exact .inr ⟨g,cap,cur,bD,ad,f,rest⟩
theorem Gr.mono(h:Gr P B e z w A n c l)(S:∀b,b<w.heap.size->P b->Q b):Gr Q B e z w A n c l:=by
 obtain⟨hl,xs,ac,ap⟩:=h;exact⟨hl,xs,ac,D.bZ (λb O=>⟨S b O.2.1 O.1,O.2.1,O.2.2⟩) _ _ ap⟩
theorem Gr.aj(h:Gr P B e z w A n c l)(O:Ext w J):Gr P B e z J A n c l:=h.al O.size λb aq _=>O.block b aq λh=>h
theorem Gr.eQ(h:Gr P B e z w A n c l)(O:Fr M w J)(hM:∀b,M b->b<w.heap.size->¬P b/\b<B):Gr P B e z J A n c l:=
 h.al O.size λb aq hp=>O.block b aq λhm=>by
  obtain⟨ac,ap⟩:=hM b hm aq;rcases hp with hp|hp
  .exact ac hp
  .omega
theorem Gr.sl(h:Gr P B e z w A n c l)(S:∀b,b<w.heap.size->P b->Q b)(aK:∀b,b<w.heap.size->B<=b->Q b):Sl w Q A n l:=by
 obtain⟨hl,xs,ac,ap⟩:=h;exact Sl.oJ ac (D.bZ (λb O=>S b O.2.1 O.1) _ _ ap) hl λg _ ac ap=>aK g ap ac
end
abbrev fT(r:World)(A:Kj)(n c:Nat)(a1:Kj)(aQ aW:Nat):Prop:=∀b,(Value.slice a1 aQ aW).ownBlock=some b->(Value.slice A n c).ownBlock=some b\/r.heap.size<=b
section
variable {P:Program} {q:Nat->Prop} {B:Nat} {e t:TypeId} {z:Value} {size bytes:Nat}
theorem Gr.snoc{w J:World}{A a1:Kj}{n c aW:Nat}{l:List D}{d:D}{cS:Nat}(hl:l.length=n)(ac:w.ownsRow B e cS (.slice A n c) n xs)(ap:D.aR w (mS q w (.slice A n c)) l xs)
  (hd:d.rep w (mS q w (.slice A n c)) co) {s:Nat} (hs:w.heap.size<=s) (aE:J.ownsRow B e cS (.slice a1 (n+1) aW) (n+1) (xs++co)) (aS:w.grownBy J (Value.slice A n c).ownBlock)
  (O:(Value.slice a1 (n+1) aW).ownBlock=(Value.slice A n c).ownBlock\/(Value.slice a1 (n+1) aW).ownBlock=some s):Gr q B e cS J a1 (n+1) aW (l++[d]):=by
 refine⟨by simp[hl],_,aE,D.cw ?_ (D.bt.2 ?_)⟩
 .refine D.bZ (λb aN=>⟨aN.1,JJ aN.2.1 aS.size,λhc=>?_⟩) _ _ (D.bY (λb aN=>aS.block b aN.2.1 λhe=>aN.2.2 he.symm) _ _ ap);exact vK
 .refine D.aA (λb aN=>⟨aN.1,JJ aN.2.1 aS.size,λhc=>?_⟩) _ _ (D.aD (λb aN=>aS.block b aN.2.1 λhe=>aN.2.2 he.symm) _ _ hd);exact vK
namespace AD
theorem Ae{p:Prop}(h:p:=by
 exact h a1 aW J (Gr.snoc hl ac ap hd (s:=r.heap.size+1) ad bE aS (by simpa using aI)) (Kf.grown aS λg aS=>.inl aS) (λb O=>by
  rcases aI with aI|aI
  .rw[aI] at O;exact .inl O
  .rw[aI] at O;injection O with O;right;simp at O;omega) hc
 ):p:=h
end AD
open AD in
theorem pt{K:Act->World->Prop}{Q:Exit->Act->World->Prop}(bu:cA P t e z size bytes)(s x:Operand)
  (bb:o.op=.call {callee:=.builtin .append,args:=#[s,x],argTypes:=#[t,t]})
  {A:Kj} {n c:Nat} {l:List D} (h0:Gr q B e size r A n c l) {d:D} {cs:Array Value} (hd:d.rep r (mS q r (.slice A n c)) cs.toList)
  (hs:a.eval s=.slice A n c) (hx:a.eval x=.slice (some ⟨r.heap.size,0,none⟩) 1 1) (aB:cs.size=size)
  (y:(n+1)*bytes<=140737488355328) (G:n+1<=140737488355328) (C:B<=r.heap.size)
  (h:∀a1 aW J,Gr q B e size J a1 (n+1) aW (l++[d])->Fr (λb=>(Value.slice A n c).ownBlock=some b) r J->fT r A n c a1 (n+1) aW->n+1<=aW->K (a.put o.dst (.slice a1 (n+1) aW)) J):o.wp P a (r.alloc (.cells cs e)) K Q:=by
 obtain⟨hl,xs,ac,ap⟩:=h0;refine ka _ bu s x bb B _ n xs hs (ac.alloc _) _ 1 1 cs.toList hx (Src.block (heap_alloc_new r _) 1 ad (D.rF _ _ hd)) y G (by simp;omega) (λh=>nomatch h) λH J bE cB aI=>?_;exact Ad
theorem cn{ops:Array Oper}{rest:List Oper}{Q:Exit->Act->World->Prop}(bu:cA P t e z size bytes)(i:o.guard=none)(s x:Operand)
  (bb:o.op=.call {callee:=.builtin .append,args:=#[s,x],argTypes:=#[t,t]})
  {A:Kj} {n c:Nat} {l:List D} (h0:Gr q B e size r A n c l) {d:D} {cs:Array Value} (hd:d.rep r (mS q r (.slice A n c)) cs.toList)
  (hs:a.eval s=.slice A n c) (hx:a.eval x=.slice (some ⟨r.heap.size,0,none⟩) 1 1) (aB:cs.size=size)
  (y:(n+1)*bytes<=140737488355328) (G:n+1<=140737488355328) (C:B<=r.heap.size)
  (h:∀a1 aW J,Gr q B e size J a1 (n+1) aW (l++[d])->Fr (λb=>(Value.slice A n c).ownBlock=some b) r J->fT r A n c a1 (n+1) aW->n+1<=aW->wpList P ops Q rest (a.put o.dst (.slice a1 (n+1) aW)) J):wpList P ops Q (o::rest) a (r.alloc (.cells cs e)):=
 wpList_plain i λ_ hK=>pt bu s x bb h0 hd hs hx aB y G C λa1 aW J bX g2 cv cR=>hK _ _ (h a1 aW J bX g2 cv cR)
theorem Gr.HN{w J:World}{A a1:Kj}{n m c aW:Nat}{l k:List D}{cS:Nat}(hl:l.length=n)(hm:k.length=m)(ac:w.ownsRow B e cS (.slice A n c) n xs)(ap:D.aR w (mS q w (.slice A n c)) l xs)
  (hd:D.aR w (mS q w (.slice A n c)) k co) {s:Nat} (hs:w.heap.size<=s) (aE:J.ownsRow B e cS (.slice a1 (n+m) aW) (n+m) (xs++co)) (aS:w.grownBy J (Value.slice A n c).ownBlock)
  (O:(Value.slice a1 (n+m) aW).ownBlock=(Value.slice A n c).ownBlock\/(Value.slice a1 (n+m) aW).ownBlock=some s):Gr q B e cS J a1 (n+m) aW (l++k):=by
 refine⟨by simp[hl,hm],_,aE,D.cw ?_ ?_⟩
 .refine D.bZ (λb aN=>⟨aN.1,JJ aN.2.1 aS.size,λhc=>?_⟩) _ _ (D.bY (λb aN=>aS.block b aN.2.1 λhe=>aN.2.2 he.symm) _ _ ap);exact vK
 .refine D.bZ (λb aN=>⟨aN.1,JJ aN.2.1 aS.size,λhc=>?_⟩) _ _ (D.bY (λb aN=>aS.block b aN.2.1 λhe=>aN.2.2 he.symm) _ _ hd);exact vK
end
structure lu(B:Nat)(e1:TypeId)(db:Nat)(e2:TypeId)(bt:Nat)(w:World)(A:Kj)(n c:Nat)(l:List D)(a1:Kj)(aQ aW:Nat)(aM:List D):Prop where
 one:Gr (λb=>B<=b/\(Value.slice a1 aQ aW).ownBlock≠some b) B e1 db w A n c l
 two:Gr (λb=>B<=b/\(Value.slice A n c).ownBlock≠some b) B e2 bt w a1 aQ aW aM
 ne:∀b,(Value.slice A n c).ownBlock=some b->(Value.slice a1 aQ aW).ownBlock≠some b
section
variable {B:Nat} {e1 e2:TypeId} {db bt:Nat} {w J:World} {A a1 bg:Kj} {n c aQ aW n2 c2:Nat} {l aM dp:List D}
theorem lu.nil(B:Nat)(e1:TypeId)(db:Nat)(e2:TypeId)(bt:Nat)(w:World):lu B e1 db e2 bt w none 0 0 [] none 0 0 []:=⟨Gr.nil _ _ _ _ _,Gr.nil _ _ _ _ _,λb h=>by cases h⟩
theorem lu.swap(h:lu B e1 db e2 bt w A n c l a1 aQ aW aM):lu B e2 bt e1 db w a1 aQ aW aM A n c l:=⟨h.two,h.one,λb ac ap=>h.ne b ap ac⟩
theorem lu.eQ(h:lu B e1 db e2 bt w A n c l a1 aQ aW aM)(O:Fr M w J)(hM:∀b,M b->b<w.heap.size->b<B):lu B e1 db e2 bt J A n c l a1 aQ aW aM:=by
 refine⟨h.one.ek O.size λb aq hp=>O.block b aq λhm=>?_,h.two.ek O.size λb aq hp=>O.block b aq λhm=>?_,h.ne⟩
 .have:=hM b hm aq;rcases hp with hp|hp
  .have:=hp.1;omega
  .have:=(h.one.lt hp).1;omega
 .have:=hM b hm aq;rcases hp with hp|hp
  .have:=hp.1;omega
  .have:=(h.two.lt hp).1;omega
theorem lu.aj(h:lu B e1 db e2 bt w A n c l a1 aQ aW aM)(O:Ext w J):lu B e1 db e2 bt J A n c l a1 aQ aW aM:=h.eQ O λ_ h _=>h.elim
theorem lu.grow(h:lu B e1 db e2 bt w A n c l a1 aQ aW aM)(aS:Gr (λb=>B<=b/\(Value.slice a1 aQ aW).ownBlock≠some b) B e1 db J bg n2 c2 dp)(aA:Fr (λb=>(Value.slice A n c).ownBlock=some b) w J)(bb:fT w A n c bg n2 c2) :
  lu B e1 db e2 bt J bg n2 c2 dp a1 aQ aW aM:=by
 have ac:Gr (λb=>(B<=b/\(Value.slice A n c).ownBlock≠some b)/\(Value.slice bg n2 c2).ownBlock≠some b) B e2 bt w a1 aQ aW aM:=h.two.mono λb aq hp=>⟨hp,λO=>by
  rcases bb b O with ac|ac
  .exact hp.2 ac
  .omega⟩
 have ap:=ac.ek aA.size λb aq hp=>aA.block b aq λhm=>by
  rcases hp with hp|hp
  .exact hp.1.2 hm
  .exact h.ne b hm hp
 refine⟨aS,ap.mono λb _ hp=>⟨hp.1.1,hp.2⟩,λb O ap=>?_⟩;rcases bb b O with ac|ac
 .exact h.ne b ac ap
 .have:=(h.two.lt ap).2;omega
end
theorem Gr.lit{P:Nat->Prop}{w:World}{e:TypeId}{z n:Nat}{l:List D}(hl:l.length=n)(aB:cs.size=n*z)(hn:n<=1000000)(aZ:D.aR w (λb=>P b/\b<w.heap.size) l cs.toList):
  Gr P w.heap.size e z (w.alloc (.cells cs e)) (some ⟨w.heap.size,0,none⟩) n n l:=by
 refine⟨hl,cs.toList,World.ownsRow_lit w _ n (JI _) (by unfold maxLen;omega) aB,?_⟩;refine D.bZ (λb O=>⟨O.1,by have:=O.2;simp;omega,λhc=>?_⟩) _ _ (D.bY (λb O=>Below.heap_alloc w _ b O.2) _ _ aZ);simp[Value.ownBlock] at hc;have:=O.2;omega
def qf(g:Nat):World->Nat->List Value->World
 | V,_,[]=>V
 | V,i,v::vs=>qf g (V.setCell ⟨g,i,none⟩ v) (i+1) vs
def ij:Array Value->Nat->List Value->Array Value
 | cs,_,[]=>cs
 | cs,i,v::vs=>ij (cs.setIfInBounds i v) (i+1) vs
theorem ld:∀(vs:List Value) (i:Nat) (cs:Array Value),i+vs.length<=cs.size->(ij cs i vs).toList=cs.toList.take i++vs++cs.toList.drop (i+vs.length)
 | [],i,cs,_=>by simp[ij]
 | v::vs,i,cs,h=>by
  simp only[JV] at h;rw[ij,ld vs (i+1) _ (by simp;omega),Array.toList_setIfInBounds];have I:i<cs.toList.length:=by simp;omega
  rw[List.take_succ_eq_append_getElem (by simpa using I),List.take_set_of_le (JI _),List.drop_set_of_lt ad];simp[Nat.add_assoc,Nat.add_comm 1]
theorem kn{g:Nat}{t:TypeId}:∀(vs:List Value) (i:Nat) (V:World) (cs:Array Value),au V g t cs->au (qf g V i vs) g t (ij cs i vs)
 | [],_,_,_,h=>h
 | _::vs,i,_,_,h=>kn vs (i+1) _ _ (h.bH i _)
theorem lH{g:Nat}:∀(vs:List Value) (i:Nat) (V:World),Fr (λb=>b=g) V (qf g V i vs)
 | [],_,_=>Kf
 | _::vs,i,_=>Fr.trans ((Fr.refl (λb=>b=g) _).setCell (.inl rfl) _) (lH vs (i+1) _)
theorem bk{w X V:World}{g:Nat}{t:TypeId}(vs:List Value)(hs:cs.size=vs.length)(aK:au V g t cs)(ar:Ext w V)(aS:w.heap.size<=g)(hX:qf g V 0 vs=X):
  au X g t vs.toArray/\Ext w X/\Fr (λb=>b=g) V X:=by
 subst hX;have aA:=lH (g:=g) vs 0 V;refine⟨?_,Fr.low (M:=λb=>b=g) (Fr.trans (Fr.mono ar λ_ h=>h.elim) aA) λk aj=>by subst aj;exact aS,aA⟩;have ac:=kn vs 0 V cs aK;have ap:ij cs 0 vs=vs.toArray:=by
  apply Array.toList_inj.1
  rw[ld vs 0 cs ad];simp;omega
 rwa [ap] at ac
section
attribute [local go_sem ↓] fH fI
def within(x n:Int):Int:=x % n
theorem xG{n:Int}(h:0<n):(x.tmod n+n).tmod n=within x n:=by
 unfold within;have ac:=Int.emod_nonneg x (show n≠0 by omega);have ap:=Int.emod_lt_of_pos x h;have key:∀y:Int,0<=y->y.tmod n=y % n:=λy aa=>Int.tmod_eq_emod_of_nonneg aa;rcases Int.lt_or_le x 0 with hx|hx
 .have e1:x.tmod n = -((-x) % n):=by
   have:=key (-x) ad;rw[Int.neg_tmod] at this;omega
  have aD:=Int.emod_nonneg (-x) (show n≠0 by omega);have bt:=Int.emod_lt_of_pos (-x) h;rw[e1,key _ ad];rw[Int.add_emod_right];have cl:(-((-x) % n)) % n=x % n:=by
   have Q:-((-x) % n)=x+n*((-x) / n):=by
    have:=Int.emod_add_mul_ediv (-x) n;omega
   rw[Q,Int.add_mul_emod_self_left]
  exact cl
 .rw[key x hx,key _ ad,Int.add_emod_right,Int.emod_emod_of_dvd _ (Int.dvd_refl n)]
theorem rQ{n:Int}(h:0<n):0<=within x n/\within x n<n:=⟨Int.emod_nonneg x ad,Int.emod_lt_of_pos x h⟩
theorem cB.HF{w:World}{B n:Nat}{A:Kj}{l:List bI}(h:cB (EF fO) 3 w B A n l)(aj:k<n):
  ∃b o m,A=some ⟨b,o,none⟩/\b<B/\l[k]?=some m/\w.cell? ⟨b,o+k*3,none⟩=some (.string m.name)/\w.cell? ⟨b,o+k*3+1,none⟩=some (.bool m.re)/\w.cell? ⟨b,o+k*3+2,none⟩=some (.int .i64 m.size):=by
 obtain⟨b,o,m,bu,O,hm,_,hc⟩:=h.Hl aj;exact⟨b,o,m,bu,O,hm,hc 0 _ rfl,hc 1 _ rfl,hc 2 _ rfl⟩
theorem cB.hold{w:World}{B n:Nat}{A:Kj}{l:List cp}(h:cB (EF bA) 2 w B A n l)(aj:k<n):
  ∃b o m,A=some ⟨b,o,none⟩/\b<B/\l[k]?=some m/\w.cell? ⟨b,o+k*2,none⟩=some (.int .i64 m.owner)/\w.cell? ⟨b,o+k*2+1,none⟩=some (.int .i64 m.depth):=by
 obtain⟨b,o,m,bu,O,hm,_,hc⟩:=h.Hl aj;exact⟨b,o,m,bu,O,hm,hc 0 _ rfl,hc 1 _ rfl⟩
theorem C6(l:List bI):∀x∈l,(fO x).length=3:=λ_ _=>rfl
theorem dY(l:List cp):∀x∈l,(bA x).length=2:=λ_ _=>rfl
theorem Dl(l:List bI):∀x∈l,∀u∈fO x,u.oneCell'=true:=λx _ u hu=>by
 simp only[fO,JY,List.not_mem_nil,or_false] at hu;rcases hu with rfl|rfl|rfl<;>rfl
theorem ku(l:List cp):∀x∈l,∀u∈bA x,u.oneCell'=true:=λx _ u hu=>by
 simp only[bA,JY,List.not_mem_nil,or_false] at hu;rcases hu with rfl|rfl<;>rfl
theorem lP(l:List Int):∀x∈l,∀u∈dr x,u.oneCell'=true:=λx _ u hu=>by
 simp only[dr,JY,List.not_mem_nil,or_false] at hu;subst hu;rfl
theorem kf:cA prog 28 89 (.agg #[.int .i64 0,.int .i64 0]) 2 16:=cA.mk' Tryz.underlying28 (by kernel_rfl) rfl ad
theorem q8:cA prog 23 117 (.agg #[.string ⟨#[]⟩,.bool false,.int .i64 0]) 3 32:=cA.mk' Tryz.underlying23 (by kernel_rfl) rfl ad
theorem vx(x n:Int)(hn:0<n)(O:n<=4611686018427387904)(w:World) :
  Calls prog 7 #[.int .i64 x,.int .i64 n] w λe J=>e=.returned (.int .i64 (within x n))/\w=J:=by
 have bi:(n == 0)=false:=by simp;omega
 go_enter func7,ntmps7;go_wp2;go_ret;refine⟨ret_int ?_,rfl⟩;have ac:=Int.lt_tmod_of_pos x hn;have ap:=Int.tmod_lt_of_pos x hn;rw[<-xG hn];congr 1
 unfold RowKit.wrap64;omega
theorem g4(A:Kj)(n c:Nat)(X:List bI)(w:World)(h:cB (EF fO) 3 w w.heap.size A n X)(hX:l5 X) :
  Calls prog 38 #[.slice A n c] w λe J=>e=.returned (.int .i64 (elems X))/\Below w.heap.size w J:=by
 have hl:=h.1;have hn:=hX.1;go_enter func38,ntmps38;go_wp2;go_loopw [3,8] (λs i wr=>∃k:Nat,k<=n/\i=.int .i64 k/\s=.int .i64 (elems (X.take k))/\Below w.heap.size w wr) (λ_ i _=>n - (intOf i).toNat)
 case atStart=>exact⟨0,J4 _,rfl,rfl,Below.refl _ _⟩
 case round=>
  obtain⟨k,aj,rfl,rfl,O⟩:=hrel;by_cases aq:k<n
  .obtain⟨b,o,m,rfl,H,hm,c0,c1,c2⟩:=(h.ep O).HF aq;have z:=hX.lA k;have bY:=hX.at_ hm;have bH:=O.size;have bF:=ae (show elems (X.take (k+1))=elems (X.take k)+max m.size 1 by rw[aX hm,hJ];rfl);clear hm;go_wp2;go_roundw
   case rel=>exact⟨k+1,ad,by go_num,by rw[bF.o],((O.alloc bH _).alloc (by simp;omega) _)⟩
   case measure=>exact aU
  .go_wp2;go_ret;exact⟨ret_int (by first|rfl|rw[JQ ad]),O⟩
theorem Cz(A:Kj)(n c:Nat)(X:List bI)(m:Int)(w:World)(h:cB (EF fO) 3 w w.heap.size A n X)(hX:l5 X)(a7:n<=c) :
  Calls prog 111 #[.slice A n c,.int .i64 m] w λe J=>e=.returned (.int .i64 (eh X m))/\Below w.heap.size w J:=by
 have hl:=h.1;by_cases hm:m<0
 .have bL:=ae (show eh X m = -1 from kW (.inl hm));clear h hX hl;go_enter func111,ntmps111;exact tq
 by_cases ah:(n:Int)<=m
 .have bL:=ae (show eh X m = -1 from kW (.inr ad));clear h hX hl;go_enter func111,ntmps111;exact tq
 obtain⟨k,rfl⟩:=JN (show 0<=m by omega);have bL:=ae (show eh X k=elems (X.take k) from mb ad);have F:cB (EF fO) 3 w w.heap.size A k (X.take k):=by
  refine⟨by simp;omega,λaj=>?_⟩;obtain⟨b,o,bu,O,hc⟩:=h.2 ad;refine⟨b,o,bu,O,λj x hx=>hc j x ?_⟩;rw[List.getElem?_take] at hx;split at hx
  .exact hx
  .cases hx
 have aj:k<n:=ad;have a:=hX.take k;clear h hX hl hm ah;go_enter func111,ntmps111;go_wp2_with(fail);refine(g4 A k k _ w F a).mono ?_;rintro e J ⟨rfl,O⟩;go_wp2;go_ret;exact⟨ret_int (by rw[bL.o]),O⟩
theorem mV(A:Kj)(n c:Nat)(X:List bI)(e:Int)(w:World)(h:cB (EF fO) 3 w w.heap.size A n X)(hX:l5 X)(he:e<=9223372036854775807) :
  Calls prog 91 #[.slice A n c,.int .i64 e] w λr J=>r=.returned (.int .i64 (bh X e))/\Below w.heap.size w J:=by
 have hl:=h.1;have hn:=hX.1;by_cases a:e<0
 .have bL:=ae (show bh X e = -1 from ib a);clear h hX hl;go_enter func91,ntmps91;exact tq
 go_enter func91,ntmps91;go_wp2;go_loopw [1,11] (λs i wr=>∃k:Nat,k<=n/\i=.int .i64 k/\s=.int .i64 (e - elems (X.take k))/\elems (X.take k)<=e/\Below w.heap.size w wr) (λ_ i _=>n - (intOf i).toNat)
 case atStart=>exact⟨0,J4 _,rfl,C5 (by simp[elems]),by simp[elems];omega,Below.refl _ _⟩
 case round=>
  obtain⟨k,aj,rfl,rfl,hle,O⟩:=hrel;by_cases aq:k<n
  .obtain⟨b,o,m,rfl,H,hm,c0,c1,c2⟩:=(h.ep O).HF aq;have z:=hX.lA k;have bY:=hX.at_ hm;have bH:=O.size;have bF:=ae (show elems (X.take (k+1))=elems (X.take k)+max m.size 1 by rw[aX hm,hJ];rfl);have cF:=ae hm;clear hm;by_cases E:e - elems (X.take k)<max m.size 1
   .have a2:=ae (show bh X e=k from j3 cF.o ad hle (by unfold bI.num;omega));go_wp2;go_ret;exact⟨ret_int (by rw[a2.o]),((O.alloc bH _).alloc (by simp;omega) _)⟩
   .go_wp2;go_roundw
    case rel=>exact⟨k+1,ad,by go_num,C5 (by rw[bF.o];omega),by rw[bF.o];omega,(((O.alloc bH _).alloc (by simp;omega) _).alloc (by simp;omega) _)⟩
    case measure=>exact aU
  .have a2:=ae (show bh X e = -1 from ie (by rwa [JQ ad] at hle));exact pR
end
end Go.Proofs.YtnigabjngpnbiaaGreat

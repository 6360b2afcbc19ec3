/- Part 13 of the proof. No condition of its own. -/
import Derived.Test.YtkhnkojkplbioaaGreatQ12
namespace Go.Proofs.YtkhnkojkplbioaaGreat
open Go.RowKit Go.Proofs.Tryz
set_option maxRecDepth 1000000
set_option maxHeartbeats 25600000
set_option linter.unusedVariables false
variable{s:ByteArray}{cs:List Value}{k:Nat}{P:Nat->Prop}{p:Prop}{α:Type}{w:World}{r:eS}
theorem an.DZ{C:an->Prop}(f:∀b:an,(∀s∈b.list,C s.th/\C s.el)->C b):∀b:an,C b:=by
 have c:C .nil:=f .nil λs hs=>by simp[an.list] at hs
 have fin:∀b:an,(∀s∈b.list,C s.th/\C s.el)->C b/\∀s∈b.list,C s.th/\C s.el:=λb h=>⟨f b h,h⟩
 suffices h:∀b:an,C b/\∀s∈b.list,C s.th/\C s.el from λb=>(h b).1
 intro b
 induction b with
 | nil=>exact fin _ λs hs=>by simp[an.list] at hs
 | set v n e rest ao=>
  exact xQ
 | call g n aV rest ao=>
  exact xQ
 | lock u r rest ao=>
  exact xQ
 | ite e th el rest j l ao=>
  refine fin _ λs hs=>?_;rcases LC.1 hs with rfl|hs
  .exact⟨j.1,l.1⟩
  .exact ao.2 s hs
 | gz e th rest j ao=>
  refine fin _ λs hs=>?_;rcases LC.1 hs with rfl|hs
  .exact⟨j.1,c⟩
  .exact ao.2 s hs
 | ret rest ao=>
  exact xQ
theorem iH:∀(b:an) (s:aA),s∈b.list->s.th.num+s.el.num<b.num
 | .nil,s,h=>by simp[an.list] at h
 | .set v n e rest,s,h=>by
  rcases LC.1 h with rfl|h
  .simp[aA.th,aA.el,an.num]
  .have:=iH rest s h;simp only[an.num];omega
 | .call g n aV rest,s,h=>by
  rcases LC.1 h with rfl|h
  .simp[aA.th,aA.el,an.num]
  .have:=iH rest s h;simp only[an.num];omega
 | .lock u r rest,s,h=>by
  rcases LC.1 h with rfl|h
  .simp[aA.th,aA.el,an.num]
  .have:=iH rest s h;simp only[an.num];omega
 | .ite e th el rest,s,h=>by
  rcases LC.1 h with rfl|h
  .simp only[aA.th,aA.el,an.num];omega
  .have:=iH rest s h;simp only[an.num];omega
 | .gz e th rest,s,h=>by
  rcases LC.1 h with rfl|h
  .simp only[aA.th,aA.el,an.num];omega
  .have:=iH rest s h;simp only[an.num];omega
 | .ret rest,s,h=>by
  rcases LC.1 h with rfl|h
  .simp[aA.th,aA.el,an.num]
  .have:=iH rest s h;simp only[an.num];omega
def wX(e:VE):Prop:=∃N d,dM N/\d<=12/\e.src N d
def oP(r:eS):Prop:=bH r.name.data.toList=true/\∀e,r.idx=some e->wX e
def uT:ds->Prop
 | .mx r=>oP r
 | .ex e=>wX e
def gD:Nat->an->Prop
 | _,.nil=>True
 | d,.set _ n e rest=>bH n.data.toList=true/\wX e/\gD d rest
 | d,.call _ n aV rest=>(bH n.data.toList=true/\(∀a∈aV,uT a)/\aV.length<=1000)/\gD d rest
 | d,.lock _ r rest=>oP r/\gD d rest
 | 0,.ite ..=>False
 | 0,.gz ..=>False
 | d+1,.ite e th el rest=>wX e/\gD d th/\gD d el/\gD (d+1) rest
 | d+1,.gz e th rest=>wX e/\gD d th/\gD (d+1) rest
 | d,.ret rest=>gD d rest
def J1(d:Nat):aA->Prop
 | .set _ n e=>bH n.data.toList=true/\wX e
 | .call _ n aV=>bH n.data.toList=true/\(∀a∈aV,uT a)/\aV.length<=1000
 | .lock _ r=>oP r
 | .ite e th el=>wX e/\∃k,d=k+1/\gD k th/\gD k el
 | .gz e th=>wX e/\∃k,d=k+1/\gD k th
 | .ret=>True
theorem gT:∀(b:an) (d:Nat),gD d b->∀s∈b.list,J1 d s
 | .nil,d,_,s,hs=>by simp[an.list] at hs
 | .set v n e rest,d,h,s,hs=>by
  have F:bH n.data.toList=true/\wX e/\gD d rest:=by cases d<;>exact h
  rcases LC.1 hs with rfl|hs
  .exact⟨F.1,F.2.1⟩
  .exact gT rest d F.2.2 s hs
 | .call g n aV rest,d,h,s,hs=>by
  have F:(bH n.data.toList=true/\(∀a∈aV,uT a)/\aV.length<=1000)/\gD d rest:=by cases d<;>exact h
  rcases LC.1 hs with rfl|hs
  .exact F.1
  .exact gT rest d F.2 s hs
 | .lock u r rest,d,h,s,hs=>by
  have F:oP r/\gD d rest:=by cases d<;>exact h
  rcases LC.1 hs with rfl|hs
  .exact F.1
  .exact gT rest d F.2 s hs
 | .ite e th el rest,0,h,s,hs=>h.elim
 | .gz e th rest,0,h,s,hs=>h.elim
 | .ite e th el rest,d+1,h,s,hs=>by
  rcases LC.1 hs with rfl|hs
  .exact⟨h.1,d,rfl,h.2.1,h.2.2.1⟩
  .exact gT rest (d+1) h.2.2.2 s hs
 | .gz e th rest,d+1,h,s,hs=>by
  rcases LC.1 hs with rfl|hs
  .exact⟨h.1,d,rfl,h.2.1⟩
  .exact gT rest (d+1) h.2.2 s hs
 | .ret rest,d,h,s,hs=>by
  have F:gD d rest:=by cases d<;>exact h
  rcases LC.1 hs with rfl|hs
  .trivial
  .exact gT rest d F s hs
theorem oP.src(h:oP r):E8 r:=λe he=>by
 obtain⟨N,d,_,_,hs⟩:=h.2 e he;exact⟨N,d,hs⟩
theorem uT.src{a:ds}(h:uT a):Gs a:=by
 cases a with
 | mx r=>exact oP.src h
 | ex e=>
  obtain⟨N,d,_,_,hs⟩:=h;exact⟨N,d,hs⟩
theorem wX.src{e:VE}(h:wX e):∃N d,e.src N d:=by
 obtain⟨N,d,_,_,hs⟩:=h;exact⟨N,d,hs⟩
theorem jo:∀(b:an) (d:Nat),gD d b->nS b
 | .nil,_,_=>trivial
 | .set v n e rest,d,h=>by
  have F:bH n.data.toList=true/\wX e/\gD d rest:=by cases d<;>exact h
  exact⟨F.2.1.src,jo rest d F.2.2⟩
 | .call g n aV rest,d,h=>by
  have F:(bH n.data.toList=true/\(∀a∈aV,uT a)/\aV.length<=1000)/\gD d rest:=by cases d<;>exact h
  exact⟨⟨λa bz=>(F.1.2.1 a bz).src,F.1.2.2⟩,jo rest d F.2⟩
 | .lock u r rest,d,h=>by
  have F:oP r/\gD d rest:=by cases d<;>exact h
  exact⟨F.1.src,jo rest d F.2⟩
 | .ite e th el rest,0,h=>h.elim
 | .gz e th rest,0,h=>h.elim
 | .ite e th el rest,d+1,h=>⟨h.1.src,jo th d h.2.1,jo el d h.2.2.1,jo rest (d+1) h.2.2.2⟩
 | .gz e th rest,d+1,h=>⟨h.1.src,jo th d h.2.1,jo rest (d+1) h.2.2⟩
 | .ret rest,d,h=>by
  have F:gD d rest:=by cases d<;>exact h
  exact jo rest d F
theorem Fl{G:Env}(hG:n7 G){V:L4}(hV:dM V)(h:su G V r):oP r:=by
 rcases h with⟨m,hm,hn,ac,au⟩|⟨hp,an⟩
 .refine⟨by rw[<-hn];exact hG.af m hm,λe he=>?_⟩;by_cases hs:0<m.size
  .obtain⟨x,hx,ay⟩:=ac hs;rw[hx] at he;injection he with he;subst he;exact⟨V,2,hV,ad,ay⟩
  .rw[au hs] at he;cases he
 .refine⟨hG.params _ hp,λe he=>?_⟩;rw[an] at he;cases he
theorem yx{G:Env}(hG:n7 G){V:L4}(hV:dM V):∀(ps:List (ByteArray×Bool)) (aV:List ds),iR G V ps aV->(∀a∈aV,uT a)/\aV.length=ps.length
 | [],[],_=>⟨λa h=>by simp at h,rfl⟩
 | p::ps,a::aV,h=>by
  obtain⟨j,l⟩:=yx hG hV ps aV h.2;refine⟨λx hx=>?_,by simp[l]⟩;rcases LC.1 hx with rfl|hx
  .cases x with
   | mx r=>exact Fl hG hV h.1.2
   | ex e=>exact⟨V,2,hV,ad,h.1.2⟩
  .exact j x hx
 | [],_::_,h=>h.elim
 | _::_,[],h=>h.elim
theorem kq{G:Env}(hG:n7 G):∀(b:an) (d:Nat) (V T:L4),dM V->e6 G d V T b->gD d b
 | .nil,d,V,T,hV,h=>by cases d<;>trivial
 | .set true n e rest,d,V,T,hV,h=>by
  have F:bH n.data.toList=true/\n∉T/\e.src V 2/\e6 G d (V++[n]) (T++[n]) rest:=by cases d<;>exact h
  have ao:=kq hG rest d _ _ (j5 hV F.1) F.2.2.2;have r:bH n.data.toList=true/\wX e/\gD d rest:=⟨F.1,⟨V,2,hV,ad,F.2.2.1⟩,ao⟩
  cases d<;>exact r
 | .set false n e rest,d,V,T,hV,h=>by
  have F:n∈V/\e.src V 2/\e6 G d V T rest:=by cases d<;>exact h
  have ao:=kq hG rest d _ _ hV F.2.2;have r:bH n.data.toList=true/\wX e/\gD d rest:=⟨hV n F.1,⟨V,2,hV,ad,F.2.1⟩,ao⟩
  cases d<;>exact r
 | .call g n aV rest,d,V,T,hV,h=>by
  have F:(∃ps,(n,ps)∈G.funcs/\iR G V ps aV)/\e6 G d V T rest:=by cases d<;>exact h
  have ao:=kq hG rest d _ _ hV F.2;obtain⟨ps,cg,aK⟩:=F.1;obtain⟨q,y⟩:=yx hG hV ps aV aK;have J:=hG.funcs _ cg;have hle:aV.length<=1000:=by have:=J.2;simp only[] at this;omega
  have r:(bH n.data.toList=true/\(∀a∈aV,uT a)/\aV.length<=1000)/\gD d rest:=⟨⟨J.1,q,hle⟩,ao⟩
  cases d<;>exact r
 | .lock u r rest,d,V,T,hV,h=>by
  have F:su G V r/\e6 G d V T rest:=by cases d<;>exact h
  have ao:=kq hG rest d _ _ hV F.2;have r:oP r/\gD d rest:=⟨Fl hG hV F.1,ao⟩
  cases d<;>exact r
 | .ite e th el rest,0,V,T,hV,h=>h.elim
 | .gz e th rest,0,V,T,hV,h=>h.elim
 | .ite e th el rest,d+1,V,T,hV,h=>⟨⟨V,2,hV,ad,h.1⟩,kq hG th d V T hV h.2.1,kq hG el d V T hV h.2.2.1,kq hG rest (d+1) V T hV h.2.2.2⟩
 | .gz e th rest,d+1,V,T,hV,h=>⟨⟨V,2,hV,ad,h.1⟩,kq hG th d V T hV h.2.1,kq hG rest (d+1) V T hV h.2.2⟩
 | .ret rest,d,V,T,hV,h=>by
  have F:e6 G d V T rest:=by cases d<;>exact h
  have ao:=kq hG rest d _ _ hV F;cases d<;>exact ao
def h4(g:ByteArray×Int):List UInt8:=aY (hL g)
def kn(m:bD):List UInt8:=aY (hO m)
def kk(f:aK):List UInt8:=aY (hJ f)
def hi(l:List (ByteArray×Bool)):List UInt8:=aY (ef (l.map gL))
theorem Em(g:ByteArray×Int):h4 g=[118,97,114,32]++(g.1.data.toList++((if g.2=0 then [] else [32,61,32]++aY (hP g.2))++[59,10])):=by
 unfold h4 hL;split
 .simp[aY,Atom.bytes,kw]
 .simp only[bf,bh,Lz];simp[aY,Atom.bytes,kw]
theorem Ez(m:bD):kn m=(if m.re then [114] else [])++([109,117,116,101,120,32]++(m.name.data.toList++((if 0<m.size then [91]++(aY (hP m.size)++[93]) else [])++[59,10]))):=by
 unfold kn hO;by_cases h:0<m.size
 .cases m.re<;>simp[h,aY,Atom.bytes,kw,fQ]
 .cases m.re<;>simp[h,aY,Atom.bytes,kw,fQ]
theorem qM{l:List (ByteArray×Bool)}{q:ByteArray×Bool}(h:l[k]?=some q):hi (l.take (k+1))=hi (l.take k)++((if 0<k then [44,32] else [])++((if q.2 then [109,117,116,101,120,32] else [])++q.1.data.toList)):=by
 have ap:k<l.length:=(List.getElem?_eq_some_iff.1 h).1;have bA:aY (gL q)=(if q.2 then [109,117,116,101,120,32] else [])++q.1.data.toList:=by
  unfold gL;split<;>simp[aY,Atom.bytes,kw,fQ]
 unfold hi;rw[List.take_add_one,h,Lr];show aY (ef (List.map gL (List.take k l)++[gL q]))=_
 rw[l9];by_cases h0:0<k
 .rw[if_neg (by intro e;have:=congrArg List.length e;simp only[Lo,List.length_take,LG] at this;omega),if_pos h0,bh,bf,bf,bA];simp[Atom.bytes]
 .obtain rfl:k=0:=ad;simp[ef,aY,<-bA]
theorem Ee(f:aK):kk f=[102,117,110,99,32]++(f.name.data.toList++([40]++(hi f.params++([41,32,123,10]++(cF 1 f.body++[125,10]))))):=by
 unfold kk hJ hi cF;simp only[bf,bh];simp[aY,Atom.bytes,kw]
theorem l2(f:α->List Atom)(l:List α):aY (l.flatMap f)=(l.map λx=>aY (f x)).flatten:=by
 induction l with
 | nil=>rfl
 | cons a l ao=>rw[LH,bh,ao];simp
def fq{α:Type}(f:α->List UInt8)(l:List α):List UInt8:=(l.map f).flatten
theorem nw{f:α->List UInt8}{l:List α}{x:α}(h:l[k]?=some x):fq f (l.take (k+1))=fq f (l.take k)++f x:=by
 unfold fq;rw[List.take_add_one,h,Lr,List.flatten_append];simp
theorem kW(f:α->List UInt8)(l:List α)(k:Nat):(fq f (l.take k)).length<=(fq f l).length:=by
 conv=>rhs;rw[<-List.take_append_drop k l]
 unfold fq;rw[Lr,List.flatten_append,Lm];omega
theorem sd(p:bP):aY (fH p)=fq h4 p.globals++(fq kn p.af++fq kk p.funcs):=by
 unfold fH;rw[bh,bh,l2,l2,l2];rfl
section
theorem jc(A:L3)(c:Nat)(w:World):Calls prog 151 #[.agg #[.int .i64 0,.int .i64 0,.string ⟨#[]⟩,.slice A 0 c]] w λe ab=>e=.returned (.bool true)/\Ext w ab:=by
 go_enter func151,ntmps151;exact vM
theorem gR(A:L3)(c:Nat)(w:World):Calls prog 153 #[.agg #[.string ⟨#[]⟩,.slice A 0 c]] w λe ab=>e=.returned (.bool true)/\Ext w ab:=by
 go_enter func153,ntmps153;exact vM
def sD(x:VE):Prop:=∀(op n:Int) (s:ByteArray) (A:L3) (m c:Nat) (w:World),(bp x).rep w (av w) [.int .i64 op,.int .i64 n,.string s,.slice A m c]->
 Calls prog 168 #[.agg #[.int .i64 op,.int .i64 n,.string s,.slice A m c]] w λe ab=>e=.returned (.bool true)/\Ext w ab
namespace Ct
theorem pJ(h:p:=by
 obtain⟨bq,ck⟩:=aJ hs ao;clear ba ao;go_enter func168,ntmps168;go_wp2_with(fail);generalize be:World.alloc _ _=W;have aw:=aW be;have aR:=aI be;clear be;refine(gv x.bg W).mono ?_;rintro e aS ⟨rfl,ar⟩;have bo:=ae (aw.trans ar);have bO:=ae (aR.aj ar);obtain⟨a0,aj,af⟩:=(aR.aj ar).two;clear aw aR ar;have P:=hs.1;rw[Lo] at P;clear hs;have key:∀(n0:Nat) (aM:x.args.length=n0),True:=λ_ _=>trivial;clear key
 cases x with
 | num n=>
  have hn:0<=n/\n<4611686018427387904:=by cases d<;>exact hx
  obtain rfl:0=m:=P;simp only[VE.bg,VE.numOf,VE.bA] at *;have co:decide (n>=0)=true:=by simp;omega
  rw[show cX 1=6 by decide];clear hx bq ck hn;go_wp2;go_quiet (fail)
  go_wp2;refine wp_loop_rounds 1 ?_;rw[rounds_succ];go_wp2;go_ret
  exact⟨rfl,bo.drewN _⟩
 | g7 s=>
  have hs:s∈N:=by cases d<;>exact hx
  obtain rfl:0=m:=P;simp only[VE.bg,VE.numOf,VE.bA] at *;have ax:=ae (show jJ s=true from hN s hs);have bI:s.size<=1000000:=by
   have:=eF (hN s hs);have au:s.size=s.data.toList.length:=rfl;omega
  rw[show cX 2=6 by decide];clear hx bq ck hs;go_wp2;refine eC (λ_=>False) [(0,3),(1,0),(2,3),(3,3),(4,3),(5,0),(6,3),(7,3),(8,3),(9,3),(10,0),(11,3),(12,3),(13,3),(14,0),(15,3),(16,3),(17,3),(18,0),(19,3),(20,3),(21,3),(22,3),(23,0),(24,1),(25,3),(26,3),(27,3)] ?_;refine pf ?_;refine ph ?_
  iterate 2 refine pf ?_
  refine dr rfl (by rfl) ?_
  try simp only[PU]
  refine iq rfl (by rfl) ?_
  try simp only[PU]
  refine dr rfl (by rfl) ?_
  try simp only[PU]
  iterate 2 refine pf ?_
  refine dr rfl (by rfl) ?_
  try simp only[PU]
  refine iq rfl (by rfl) ?_
  try simp only[PU]
  refine dr rfl (by rfl) ?_
  try simp only[PU]
  iterate 2 refine pf ?_
  refine ph ?_
  iterate 3 refine pf ?_
  refine ph ?_
  iterate 4 refine pf ?_
  refine ph ?_;refine aG rfl (λK hK=>?_);go_simp;refine(hb s _ bI).mono ?_;rintro e aU ⟨rfl,bL⟩;rw[ax.o];refine dq hK (bL) ?_;clear hK K
  iterate 3 refine pf ?_
  refine aC ?_;have aX:=ae (bo.trans (Fr.aF bL));have bC:=(show aq aS w.heap.size 53 _ from bO.o).aj (Fr.aF bL);obtain⟨a7,am,aF⟩:=bC.two;clear bL a0 aj af bC;go_wp2;refine wp_loop_rounds 1 ?_;rw[rounds_succ];go_wp2;go_ret
  exact⟨rfl,aX.o⟩
 | loc j=>exact(by cases d<;>exact hx:False).elim
 | iF j=>exact(by cases d<;>exact hx:False).elim
 | un op y=>
  obtain rfl:1=m:=P
  have cA:op=3\/op=4:=by cases d with
   | zero=>exact hx.elim
   | succ d=>exact hx.1
  simp only[VE.bg,VE.numOf,VE.bA] at *;rw[show cX op=5 by rcases cA with rfl|rfl<;>decide];clear hx cA;go_wp2;go_loopw [6] (λbg wr=>∃k:Nat,k<=1/\bg=.int .i64 k/\Ext w wr/\aq wr w.heap.size 53 #[.int .i64 op,.int .i64 0,.string ⟨#[]⟩,.slice A 1 c]) (λbg _=>1 - (intOf bg).toNat)
  case atStart=>exact⟨0,ad,rfl,bo.o,bO.o⟩
  case round=>
   obtain⟨k,ap,rfl,aw,aR⟩:=hrel;clear bo bO a0 aj af;obtain⟨bo,bO⟩:=aJ aw aR;obtain⟨a0,aj,af⟩:=aR.two;by_cases al:k<1
   .obtain⟨b,o,z,cs,rfl,O,bb,Q,a8,Z⟩:=(bq.on (Fr.ext aw)).g6 db al;clear aw aR
    match cs,a8 with
    | [b2,cG,ch,bA],_=>
    exact GZ
   .obtain rfl:k=1:=ad;clear aw aR;go_wp2;go_ret
    exact⟨rfl,bo.o⟩
 | bin op y z=>
  obtain rfl:2=m:=P
  have cA:5<=op/\op<=17:=by cases d with
   | zero=>exact hx.elim
   | succ d=>exact hx.1
  obtain⟨g,bm,f,_⟩:=vk cA;simp only[VE.bg,VE.numOf,VE.bA] at *;rw[f];have dk:((g:Int) == 6)=false:=by simp;omega
  have q5:((g:Int) == 5)=false:=by simp;omega
  clear hx cA bm f;go_wp2;go_loopw [6] (λbg wr=>∃k:Nat,k<=2/\bg=.int .i64 k/\Ext w wr/\aq wr w.heap.size 53 #[.int .i64 op,.int .i64 0,.string ⟨#[]⟩,.slice A 2 c]) (λbg _=>2 - (intOf bg).toNat)
  case atStart=>exact⟨0,ad,rfl,bo.o,bO.o⟩
  case round=>
   obtain⟨k,ap,rfl,aw,aR⟩:=hrel;clear bo bO a0 aj af dk q5;obtain⟨bo,bO⟩:=aJ aw aR;obtain⟨a0,aj,af⟩:=aR.two;by_cases al:k<2
   .obtain⟨b,o,z,cs,rfl,O,bb,Q,a8,Z⟩:=(bq.on (Fr.ext aw)).g6 db al;clear aw aR
    match cs,a8 with
    | [b2,cG,ch,bA],_=>
    exact GZ
   .obtain rfl:k=2:=ad;clear aw aR;go_wp2;go_ret;exact⟨rfl,bo.o⟩
 ):p:=h
end Ct
open Ct in
theorem xa(N:L4)(hN:dM N)(d:Nat)(x:VE)(hx:x.src N d)(ao:∀(k:Nat) (y:VE),x.args[k]?=some y->sD y):sD x:=by
 intro op n s A m c w ba;exact pI
theorem Gt{N:L4}{C:VE->Nat->Prop}(f:∀(d:Nat) (x:VE),x.src N d->(∀(k:Nat) (y:VE),x.args[k]?=some y->∃e,d=e+1/\C y e)->C x d):∀(d:Nat) (x:VE),x.src N d->C x d:=by
 intro d
 induction d with
 | zero=>exact λx hx=>f 0 x hx λk y bb=>by rw[qZ hx] at bb;simp at bb
 | succ d ao=>exact λx hx=>f (d+1) x hx λk y bb=>⟨d,rfl,ao y (qY hx bb)⟩
theorem zk(N:L4)(hN:dM N)(d:Nat)(x:VE)(hx:x.src N d):sD x:=
 Gt (C:=λx _=>sD x) (λd x hx ao=>xa N hN d x hx λk y bb=>by obtain⟨_,_,h⟩:=ao k y bb;exact h) d x hx
def sx(x:VE)(d:Nat):Prop:=∀(op n:Int) (s:ByteArray) (A:L3) (m c:Nat) (w:World),(bp x).rep w (av w) [.int .i64 op,.int .i64 n,.string s,.slice A m c]->
 Calls prog 169 #[.agg #[.int .i64 op,.int .i64 n,.string s,.slice A m c]] w λe ab=>(∃h:Int,e=.returned (.int .i64 h)/\0<=h/\h<=2*d)/\Ext w ab
attribute [local go_sem ↓] gr gu
namespace Cu
theorem pJ(h:p:=by
 have ci:m<=2:=by rw[<-hs.1,Lo];exact ug x
 have dA:m=x.args.length:=by rw[<-hs.1,Lo]
 obtain⟨cR,aQ,bq,ck⟩:=iX dA hx hs ao;clear ba ao hs hx dA;go_enter func169,ntmps169;go_wp2;generalize be:World.alloc _ _=W;have aw:=aW be;have aR:=aI be;clear be;obtain⟨bo,bO⟩:=aJ aw aR;clear aw aR;go_loopw [3,4] (λbG bg wr=>∃(k:Nat) (h:Int),k<=m/\bg=.int .i64 k/\bG=.int .i64 h/\0<=h/\(h=0\/h+1<=2*d)/\Ext w wr/\aq wr w.heap.size 53 #[.int .i64 x.bg,.int .i64 x.numOf,.string x.bA,.slice A m c]) (λ_ bg _=>m - (intOf bg).toNat)
 case atStart=>exact⟨0,0,ad,rfl,rfl,ad,.inl rfl,bo.o,bO.o⟩
 case round=>
  obtain⟨k,h,ap,rfl,rfl,f,ah,aw,aR⟩:=hrel;clear bo bO;obtain⟨bo,bO⟩:=aJ aw aR;obtain⟨a0,aj,af⟩:=aR.two;by_cases al:k<m
  .obtain⟨b,o,z,cs,rfl,O,bb,Q,a8,Z⟩:=(bq.on (Fr.ext aw)).g6 db al;clear aw aR
   match cs,a8 with
   | [b2,cG,ch,bA],_=>
   have c0:=Z 0 b2 rfl;have c1:=Z 1 cG rfl;have c2:=Z 2 ch rfl;have c3:=Z 3 bA rfl;simp only[Lu] at c0;have aT:b<wr.heap.size:=O;clear Z O;obtain⟨B,bF,bc,e,cv,ak⟩:=a5.1 Q;simp only[List.cons.injEq,and_true] at e;obtain⟨rfl,rfl,rfl,rfl⟩:=e;obtain⟨e0,S,hC⟩:=ck.o k z bb;obtain⟨bV,bu,H⟩:=ek hC bb Q;clear bb Q ak hC;go_wp2_with(fail);refine(bV.o _ _ _ _ _ _ wr H.o).mono ?_;rintro e aU ⟨⟨au,rfl,g,i⟩,bL⟩;have aX:=ae (bo.trans bL);have bB:=ae (bO.aj bL);have d0:=(bL.cell (j:=o+k*4) aT (λh=>h)).trans c0;have bj:b<aU.heap.size:=Ll aT bL.size;have cd:k<=1:=ad;clear bL a0 aj af c0 c1 c2 c3 aT;obtain⟨a0,aj,af⟩:=bB.two;go_wp2_with(fail);refine(r4 x.bg x.numOf z.bg x.bA b o m c k aU cd al bj d0).mono ?_;rintro e b6 ⟨rfl,bX⟩;have bd:=ae (aX.trans bX);have a4:=ae (bB.aj bX);clear bX a0 aj af d0 bj;cases dF x.bg z.bg (k == 1)
   .go_wp2;go_roundw
    case rel=>exact⟨k+1,max h au,ad,by go_num,rfl,ad,.inr ad,bd.o,a4.o⟩
    case measure=>exact aH
   .go_wp2;go_roundw
    case rel=>exact⟨k+1,max h (au+1),ad,by go_num,rfl,ad,.inr ad,bd.o,a4.o⟩
    case measure=>exact aH
  .obtain rfl:k=m:=ad;clear aw aR;have gM:decide ((k:Int)<(k:Int))=false:=by simp
   go_wp2_with(fail);refine(gv x.bg wr).mono ?_;rintro e aU ⟨rfl,bL⟩;have aX:=ae (bo.trans bL);clear bL;by_cases cI:cX x.bg=5
   .have O:h+1<=2*d:=by
     rcases ah with rfl|ah
     .have:0<d:=by
       rcases Nat.eq_zero_or_pos d with h0|h0
       .exfalso;subst h0;have ac:=aQ.o;cases x<;>first|exact ac.elim|exact absurd cI (show ¬cX 1=5 by decide)|exact absurd cI (show ¬cX 2=5 by decide)
       .exact h0
      omega
     .exact ah
    rw[cI];go_wp2;go_ret;exact⟨⟨h+1,rfl,ad,O⟩,aX.o⟩
   .have q5:(cX x.bg == 5)=false:=by simpa using cI
    go_wp2;go_ret;exact⟨⟨h,rfl,f,ad⟩,aX.o⟩
 ):p:=h
end Cu
open Cu in
theorem oi(N:L4)(d:Nat)(hd:d<=1000)(x:VE)(hx:x.src N d)(ao:∀(k:Nat) (y:VE),x.args[k]?=some y->∃e,d=e+1/\sx y e):sx x d:=by
 intro op n s A m c w ba;exact pI
theorem wB(N:L4):∀(d:Nat),d<=1000->∀(x:VE),x.src N d->sx x d:=by
 intro d
 induction d with
 | zero=>exact λhd x hx=>oi N 0 hd x hx λk y bb=>by rw[qZ hx] at bb;simp at bb
 | succ d ao=>exact λhd x hx=>oi N (d+1) hd x hx λk y bb=>⟨d,rfl,ao ad y (qY hx bb)⟩
theorem fD(x:VE)(hx:wX x)(op n:Int)(s:ByteArray)(A:L3)(m c:Nat)(w:World)(ba:(bp x).rep w (av w) [.int .i64 op,.int .i64 n,.string s,.slice A m c]) :
  Calls prog 150 #[.agg #[.int .i64 op,.int .i64 n,.string s,.slice A m c]] w λe ab=>e=.returned (.bool true)/\Ext w ab:=by
 obtain⟨N,d,hN,hd,hs⟩:=hx;have a3:=ae ba;have b:=ae (zk N hN d x hs);have a:=ae (wB N d ad x hs);clear ba hs hN;go_enter func150,ntmps150;go_wp2_with(fail);generalize be:World.alloc _ _=W;have aw:=aW be;have aR:=aI be;clear be;refine(b.o _ _ _ _ _ _ W (D.on a3.o (Fr.ext aw))).mono ?_;rintro e aU ⟨rfl,bL⟩;have aX:=ae (aw.trans bL);obtain⟨a0,aj,af⟩:=(aR.aj bL).two;clear aw aR bL;go_wp2_with(fail);refine(a.o _ _ _ _ _ _ aU (D.on a3.o (Fr.ext aX.o))).mono ?_;rintro e b6 ⟨⟨h,rfl,h0,ac⟩,bX⟩;have bd:=ae (aX.trans bX);have q:decide (h<=24)=true:=by simp;omega
 clear bX a0 aj af;go_wp2;go_ret;exact⟨rfl,bd.o⟩
theorem sa(r:eS)(ba:oP r)(s:ByteArray)(A:L3)(n c:Nat)(w:World)(h:(kG r).rep w (av w) [.string s,.slice A n c]) :
  Calls prog 152 #[.agg #[.string s,.slice A n c]] w λe ab=>e=.returned (.bool true)/\Ext w ab:=by
 obtain⟨I,aP,aK,e,aL,hs⟩:=jC.1 h;simp only[List.cons.injEq,Value.string.injEq,Value.slice.injEq,and_true] at e;obtain⟨rfl,rfl,rfl,rfl⟩:=e;have ax:=ae (show jJ r.name=true from ba.1);have bI:r.name.size<=1000000:=by
  have:=eF ba.1;have au:r.name.size=r.name.data.toList.length:=rfl;omega
 obtain⟨ce,bq⟩:=aJ ba.2 hs;clear h hs ba;go_enter func152,ntmps152;go_wp2_with(fail);generalize be:World.alloc _ _=W;have aw:=aW be;have aR:=aI be;clear be;refine(hb r.name W bI).mono ?_;rintro e aU ⟨rfl,bL⟩;rw[ax.o];have aX:=ae (aw.trans bL);have bB:=ae (aR.aj bL);obtain⟨a0,aj,af⟩:=(aR.aj bL).two;clear aw aR bL
 cases an:r.idx with
 | none=>
  have h0:=bq.1;rw[an] at h0;obtain rfl:0=n:=h0;clear an;go_wp2;go_ret
  exact⟨rfl,aX.o⟩
 | some x=>
  have aQ:=ae (ce.o x an);have h0:=bq.on (Fr.ext aX.o);rw[an] at h0;obtain rfl:1=n:=h0.1;obtain⟨b,o,bx,Z,a4,E,rfl,O,aB,c0,c1,c2,c3⟩:=Sl.EI h0 (db x);obtain⟨B,bF,bc,e,cv,ak⟩:=a5.1 aB;simp only[List.cons.injEq,and_true] at e;obtain⟨rfl,rfl,rfl,rfl⟩:=e;have aT:b<aU.heap.size:=O;have U:=ae aB;clear an h0 ak aB O ce bq;go_wp2_with(fail);refine(fD x aQ.o _ _ _ _ _ _ aU U.o).mono ?_;rintro e b6 ⟨rfl,bX⟩;have bd:=ae (aX.trans bX);clear bX;go_wp2;go_ret;exact⟨rfl,bd.o⟩
end
theorem kV{eo en:Int}{es:ByteArray}{EA:L3}{em ec:Nat}(h:(oO none).rep w P [.int .i64 eo,.int .i64 en,.string es,.slice EA em ec]):eo=0/\en=0/\es=⟨#[]⟩/\em=0:=by
 obtain⟨A,c,e⟩:=fj.1 h;simp only[List.cons.injEq,Value.int.injEq,Value.string.injEq,Value.slice.injEq,and_true,true_and] at e;exact⟨e.1,e.2.1,e.2.2.1,e.2.2.2.2.1⟩
theorem hq{A:L3}{n c:Nat}(h:(p9 none).rep w P [.string s,.slice A n c]):s=⟨#[]⟩/\n=0:=by
 unfold p9 fY at h;rw[bM,ct] at h;obtain⟨y,e,h⟩:=h;injection e with e1 e2;injection e1 with e1;subst e2;obtain⟨I,aP,aK,ch,e,_,hs,au⟩:=aN.1 h;injection e with e2 e3;injection e2 with _ e2 _;exact⟨e1,by rw[e2];exact hs.1.symm⟩
theorem Ea(h:(gN (.mx r)).rep w P cs):∃s A n c EA ec,cs=[.bool true,.string s,.slice A n c,.int .i64 0,.int .i64 0,.string ⟨#[]⟩,.slice EA 0 ec]/\(kG r).rep w P [.string s,.slice A n c]:=by
 exact Hc
namespace Cv
theorem vY(h:p:=by
 obtain⟨A,n,c,br,rfl,_,hs,bv⟩:=aN.1 hx;rw[aP] at bv;subst bv;obtain rfl:n=0:=hs.1.symm;exact zZ
 ):p:=h
end Cv
open Cv in
theorem D8{e:VE}(h:(gN (.ex e)).rep w P cs):∃ce rc op n s A m c,cs=[.bool false,.string ⟨#[]⟩,.slice ce 0 rc,.int .i64 op,.int .i64 n,.string s,.slice A m c]/\(bp e).rep w P [.int .i64 op,.int .i64 n,.string s,.slice A m c]:=by
 exact vX
theorem ik(h:bH s.data.toList=true):s.size<=1000000:=by
 have:=eF h;have au:s.size=s.data.toList.length:=rfl;omega
def GG(b:an):Prop:=∀(d deep:Nat) (A:L3) (n c:Nat) (w:World),gD d b->b.num<=1000000->deep+d<=23->Sl w (av w) A n (c6 b)->
 Calls prog 131 #[.slice A n c,.int .i64 deep] w λe ab=>e=.returned (.bool true)/\Ext w ab
namespace Cw
theorem vS(h:p:=by
 have R:=ae P;clear Z dQ P ch a8 O;go_upto_region 7 with(fail);generalize be:World.alloc wr _=W;have l:=aW be;have aR:=aI be;have z:=ae R.o;have J:=ae (bo.trans l);obtain⟨q,x⟩:=aJ l aR;obtain⟨a0,aj,af⟩:=aR.two;clear be l aR d0 d1 d2 d3 d4 d5 d6 d7 d8 d9 d10 R aT
 cases s with
 | set v nm e=>
  obtain⟨I,hex⟩:=ah.o;have ax:=ae (show jJ nm=true from I);have bI:=ik (show bH nm.data.toList=true from I);have bf:=ae hex;obtain⟨rfl,rfl⟩:=hq z.ref;obtain rfl:0=n1:=z.args.1;obtain rfl:0=n2:=z.th.1;obtain rfl:0=n3:=z.el.1;clear I hex;simp only[aA.kind,aA.name] at *;cases v
  all_goals as_aux_lemma=>
   simp only[LS,if_false,if_true] at *;go_wp2_with(fail);refine(hb nm _ bI).mono ?_;rintro e ao ⟨rfl,he⟩;have bx:=ae (J.trans he);have m:=ae (q.trans he);have G:=ae (x.aj he);clear he a0 aj af J q x;obtain⟨a0,aj,af⟩:=G.two;rw[ax.o];go_wp2_with(fail);refine(fD e bf.o _ _ _ _ _ _ _ (D.on z.expr (Fr.ext m.o))).mono ?_;rintro e aF ⟨rfl,he⟩;have aX:=ae (bx.trans he);have y:=ae (m.trans he);have bB:=ae (G.aj he);clear he a0 aj af bx m G;obtain⟨a0,aj,af⟩:=bB.two;go_wp2_with(fail);refine(gR _ _ _).mono ?_;rintro e az ⟨rfl,he⟩;have bd:=ae (aX.trans he);have E:=ae (y.trans he);have a4:=ae (bB.aj he);clear he a0 aj af aX y bB;obtain⟨a0,aj,af⟩:=a4.two;go_wp2;refine wp_loop_rounds 1 ?_;rw[rounds_succ]
   exact xR
 | call g nm aV=>
  obtain⟨I,aK,hlen⟩:=ah.o;have ax:=ae (show jJ nm=true from I);have bI:=ik (show bH nm.data.toList=true from I);obtain⟨rfl,rfl,rfl,rfl⟩:=kV z.expr;obtain⟨rfl,rfl⟩:=hq z.ref;have au:=ae aK;have c4:n1<=1000:=by have:=z.args.1;rw[Lo] at this;simp only[aA.args] at this;omega
  obtain rfl:0=n2:=z.th.1;obtain rfl:0=n3:=z.el.1;clear I aK hlen;simp only[aA.kind,aA.name] at *;cases g
  all_goals as_aux_lemma=>
   simp only[LS,if_false,if_true] at *;go_wp2_with(fail);refine(hb nm _ bI).mono ?_;rintro e ao ⟨rfl,he⟩;have bx:=ae (J.trans he);have m:=ae (q.trans he);have G:=ae (x.aj he);clear he a0 aj af J q x;obtain⟨a0,aj,af⟩:=G.two;rw[ax.o];go_wp2_with(fail);refine(jc _ _ _).mono ?_;rintro e aF ⟨rfl,he⟩;have aX:=ae (bx.trans he);have y:=ae (m.trans he);have bB:=ae (G.aj he);clear he a0 aj af bx m G;obtain⟨a0,aj,af⟩:=bB.two;go_wp2_with(fail);refine(gR _ _ _).mono ?_;rintro e az ⟨rfl,he⟩;have bd:=ae (aX.trans he);have E:=ae (y.trans he);have a4:=ae (bB.aj he);clear he a0 aj af aX y bB;obtain⟨a0,aj,af⟩:=a4.two;go_wp2;have aS:=ae (show Sl wr (av wr) bZ n1 (aV.map gN) from z.args);go_loopw [12] (λcO b3=>∃j:Nat,j<=n1/\cO=.int .i64 j/\Ext w b3/\Ext wr b3/\aq b3 wr.heap.size 207 _) (λcO _=>n1 - (intOf cO).toNat)
   case atStart=>exact⟨0,ad,rfl,bd.o,E.o,a4.o⟩
   case round=>
    obtain⟨j,bi,rfl,aw,aC,aR⟩:=hrel;clear bd E a4 a0 aj af;obtain⟨bd,E,a4⟩:=ek aw aC aR;obtain⟨a0,aj,af⟩:=aR.two;by_cases X:j<n1
    .obtain⟨ab,cV,a,cs,rfl,aD,P,ag,aG,f⟩:=(aS.on (Fr.ext aC)).g6 td X;have ay:ab<wr.heap.size:=aD;have aQ:=ae (au.o a (Ln P))
     cases a with
     | mx r=>
      obtain⟨a1,ba,bn,ac,bk,bm,rfl,ak⟩:=Ea ag;have f0:=f 0 _ rfl;have f1:=f 1 _ rfl;have f2:=f 2 _ rfl;have f3:=f 3 _ rfl;have f4:=f 4 _ rfl;have f5:=f 5 _ rfl;have f6:=f 6 _ rfl;simp only[Lu] at f0;have U:=ae ak;clear f ag ak P aG aD aw aC aR;go_upto_region 17 with(fail);generalize hV:World.alloc _ _=V;have L:=aW hV;have hC:=aI hV;have cc:=ae (bd.trans L);have aa:=ae (E.trans L);have T:=ae (a4.aj L);have aB:=ae (D.on U.o (Fr.ext L));have bV:=ae hC;clear L hC hV a0 aj af bd E a4 U f0 f1 f2 f3 f4 f5 f6 ay;obtain⟨a0,aj,af⟩:=bV.two;go_wp2_with(fail);refine(sa r aQ.o _ _ _ _ _ aB.o).mono ?_;rintro a6 a5 ⟨rfl,S⟩;have F:=ae (cc.trans S);have aO:=ae (aa.trans S);have N:=ae (T.aj S);have bV:=ae (bV.aj S);clear a0 aj af cc aa T;obtain⟨a0,aj,af⟩:=bV.two;go_wp2_with(fail);refine(jc _ _ _).mono ?_
      exact G7
     | ex e=>
      obtain⟨bl,bh,M,bc,a1,ba,am,ac,rfl,ak⟩:=D8 ag;have f0:=f 0 _ rfl;have f1:=f 1 _ rfl;have f2:=f 2 _ rfl;have f3:=f 3 _ rfl;have f4:=f 4 _ rfl;have f5:=f 5 _ rfl;have f6:=f 6 _ rfl;simp only[Lu] at f0;have U:=ae ak;clear f ag ak P aG aD aw aC aR;go_upto_region 17 with(fail);generalize hV:World.alloc _ _=V;have L:=aW hV;have hC:=aI hV;have cc:=ae (bd.trans L);have aa:=ae (E.trans L);have T:=ae (a4.aj L);have aB:=ae (D.on U.o (Fr.ext L));have bV:=ae hC;clear L hC hV a0 aj af bd E a4 U f0 f1 f2 f3 f4 f5 f6 ay;obtain⟨a0,aj,af⟩:=bV.two;go_wp2_with(fail);refine(gR _ _ _).mono ?_;rintro a6 a5 ⟨rfl,S⟩;have F:=ae (cc.trans S);have aO:=ae (aa.trans S);have N:=ae (T.aj S);have bV:=ae (bV.aj S);clear a0 aj af cc aa T;obtain⟨a0,aj,af⟩:=bV.two;go_wp2_with(fail);refine(fD e aQ.o _ _ _ _ _ _ _ (D.on aB.o (Fr.ext S))).mono ?_;exact G7
    .obtain rfl:j=n1:=ad;clear aw aC aR
     exact xR
 | lock u r=>
  obtain⟨rfl,rfl,rfl,rfl⟩:=kV z.expr;obtain rfl:0=n1:=z.args.1;obtain rfl:0=n2:=z.th.1;obtain rfl:0=n3:=z.el.1;have a3:=ae (show oP r from ah.o);simp only[aA.kind,aA.name] at *;cases u
  all_goals as_aux_lemma=>
   simp only[LS,if_false,if_true] at *;go_wp2_with(fail);refine(jc _ _ _).mono ?_;rintro e ao ⟨rfl,he⟩;have bx:=ae (J.trans he);have m:=ae (q.trans he);have G:=ae (x.aj he);clear he a0 aj af J q x;obtain⟨a0,aj,af⟩:=G.two;go_wp2_with(fail);refine(sa r a3.o _ _ _ _ _ (D.on z.ref (Fr.ext m.o))).mono ?_
   exact G8
 | ite e th el=>
  obtain⟨hex,cv,cd,aL,bL⟩:=ah.o;obtain⟨bf,Y,a9⟩:=ek hex aL bL;have Q:=ae (show deep+1+cv<=23 by have:=cb.o;omega);obtain⟨rfl,rfl⟩:=hq z.ref;obtain rfl:0=n1:=z.args.1;clear hex aL bL cd;simp only[aA.kind,aA.name] at *;as_aux_lemma=>
   go_wp2_with(fail);refine(fD e bf.o _ _ _ _ _ _ _ (D.on z.expr (Fr.ext q.o))).mono ?_;rintro e ao ⟨rfl,he⟩;have bx:=ae (J.trans he);have m:=ae (q.trans he);have G:=ae (x.aj he);clear he a0 aj af J q x;obtain⟨a0,aj,af⟩:=G.two;go_wp2_with(fail);refine(gR _ _ _).mono ?_;rintro e aF ⟨rfl,he⟩;have aX:=ae (bx.trans he);have y:=ae (m.trans he);have bB:=ae (G.aj he);clear he a0 aj af bx m G;obtain⟨a0,aj,af⟩:=bB.two;go_wp2;refine wp_loop_rounds 1 ?_;rw[rounds_succ];go_wp2_with(fail);refine((show GG th from aN.1) cv (deep+1) _ _ _ _ Y.o (LD (Nat.le_add_right _ _) i.o) Q.o (z.th.on (Fr.ext y.o))).mono ?_;rintro e az ⟨rfl,he⟩;have bd:=ae (aX.trans he);have E:=ae (y.trans he);have a4:=ae (bB.aj he);clear he a0 aj af aX y bB;obtain⟨a0,aj,af⟩:=a4.two;by_cases aY:n3=0
   .subst aY;exact xR
   .have df:decide ((n3:Int) > 0)=true:=by simp;omega
    go_wp2_with(fail);refine((show GG el from aN.2) cv (deep+1) _ _ _ _ a9.o (LD (Nat.le_add_left _ _) i.o) Q.o (z.el.on (Fr.ext E.o))).mono ?_;rintro e cQ ⟨rfl,he⟩;have cc:=ae (bd.trans he);have aa:=ae (E.trans he);have T:=ae (a4.aj he);clear he a0 aj af bd E a4;obtain⟨a0,aj,af⟩:=T.two;go_wp2;go_roundw
    case rel=>exact⟨k+1,ad,by go_num,cc.o⟩
    case measure=>exact aH
 | gz e th=>
  obtain⟨hex,cv,cd,aL⟩:=ah.o;obtain⟨bf,Y⟩:=aJ hex aL;have Q:=ae (show deep+1+cv<=23 by have:=cb.o;omega);obtain⟨rfl,rfl⟩:=hq z.ref;obtain rfl:0=n1:=z.args.1;obtain rfl:0=n3:=z.el.1;clear hex aL cd;simp only[aA.kind,aA.name] at *;as_aux_lemma=>
   go_wp2_with(fail);refine(fD e bf.o _ _ _ _ _ _ _ (D.on z.expr (Fr.ext q.o))).mono ?_;rintro e ao ⟨rfl,he⟩;have bx:=ae (J.trans he);have m:=ae (q.trans he);have G:=ae (x.aj he);clear he a0 aj af J q x;obtain⟨a0,aj,af⟩:=G.two;go_wp2_with(fail);refine(gR _ _ _).mono ?_;rintro e aF ⟨rfl,he⟩;have aX:=ae (bx.trans he);have y:=ae (m.trans he);have bB:=ae (G.aj he);clear he a0 aj af bx m G;obtain⟨a0,aj,af⟩:=bB.two;go_wp2;refine wp_loop_rounds 1 ?_;rw[rounds_succ];go_wp2_with(fail);refine((show GG th from aN.1) cv (deep+1) _ _ _ _ Y.o (LD (Nat.le_add_right _ _) i.o) Q.o (z.th.on (Fr.ext y.o))).mono ?_;rintro e az ⟨rfl,he⟩;have bd:=ae (aX.trans he);have E:=ae (y.trans he);have a4:=ae (bB.aj he);clear he a0 aj af aX y bB;obtain⟨a0,aj,af⟩:=a4.two
   exact xR
 | ret=>
  obtain⟨rfl,rfl,rfl,rfl⟩:=kV z.expr;obtain⟨rfl,rfl⟩:=hq z.ref;obtain rfl:0=n1:=z.args.1;obtain rfl:0=n2:=z.th.1;obtain rfl:0=n3:=z.el.1;simp only[aA.kind,aA.name] at *;as_aux_lemma=>
   go_wp2_with(fail);refine(jc _ _ _).mono ?_;rintro e ao ⟨rfl,he⟩;have bx:=ae (J.trans he);have m:=ae (q.trans he);have G:=ae (x.aj he);clear he a0 aj af J q x;obtain⟨a0,aj,af⟩:=G.two;go_wp2_with(fail);refine(gR _ _ _).mono ?_;exact G8
 ):p:=h
end Cw
open Cw in
theorem tx(b:an)(H:∀s∈b.list,GG s.th/\GG s.el):GG b:=by
 intro d deep A n c w bM K aE hs;have hl:b.list.length=n:=by rw[<-hs.1,cG,Lo]
 have hn:n<=1000000:=by have:=eX b;omega
 have a7:deep<=23:=ad;have a2:decide ((deep:Int)>=24)=false:=by simp;omega
 rw[cG] at hs;obtain⟨bq,ai⟩:=aJ hs H;have aP:=ae (gT b d bM);have aU:=ae (λs (hs:s∈b.list)=>LD (Nat.le_of_lt (iH b s hs)) K);have cb:=ae aE;clear hs H bM K hl aE;go_enter func131,ntmps131;go_wp2;go_loopw [5] (λbg wr=>∃k:Nat,k<=n/\bg=.int .i64 k/\Ext w wr) (λbg _=>n - (intOf bg).toNat)
 case atStart=>exact⟨0,ad,rfl,LW⟩
 case round=>
  obtain⟨k,ap,rfl,aw⟩:=hrel;have bo:=ae aw;clear aw a2;by_cases al:k<n
  .obtain⟨bb,o,s,cs,rfl,O,ch,dQ,a8,Z⟩:=(bq.on (Fr.ext bo.o)).g6 nE al;have aT:bb<wr.heap.size:=O;have ah:=ae (aP.o s (Ln ch));have aN:=ae (ai.o s (Ln ch));have i:=ae (aU.o s (Ln ch));obtain⟨eo,en,es,EA,em,ec,rs,ce,cD,rc,bZ,n1,c1,A2,n2,c2,cE,n3,c3,rfl,P⟩:=lv dQ;exact vR
  .obtain rfl:k=n:=ad;go_wp2;go_ret;exact⟨rfl,bo.o⟩
theorem uU(b:an):GG b:=an.DZ tx b
end Go.Proofs.YtkhnkojkplbioaaGreat

/- Part 13 of the proof. No condition of its own. -/
import Derived.Test.YtflecliffjbleaaGreatS12
namespace Go.Proofs.YtflecliffjbleaaGreat
open Go.RowKit Go.Proofs.Tryz
set_option maxRecDepth 1000000
set_option maxHeartbeats 25600000
set_option linter.unusedVariables false
variable{s:ByteArray}{cs:List Value}{k:Nat}{P:Nat->Prop}{p:Prop}{α:Type}{w:World}{r:eW}
theorem al.DV{C:al->Prop}(f:∀b:al,(∀s∈b.list,C s.th/\C s.el)->C b):∀b:al,C b:=by
 have c:C .nil:=f .nil λs hs=>by simp[al.list] at hs
 have fin:∀b:al,(∀s∈b.list,C s.th/\C s.el)->C b/\∀s∈b.list,C s.th/\C s.el:=λb h=>⟨f b h,h⟩
 suffices h:∀b:al,C b/\∀s∈b.list,C s.th/\C s.el from λb=>(h b).1
 intro b
 induction b with
 | nil=>exact fin _ λs hs=>by simp[al.list] at hs
 | set v n e rest aq=>
  exact xM
 | call g n aT rest aq=>
  exact xM
 | lock u r rest aq=>
  exact xM
 | ite e th el rest j o aq=>
  refine fin _ λs hs=>?_;rcases LS.1 hs with rfl|hs
  .exact⟨j.1,o.1⟩
  .exact aq.2 s hs
 | gG e th rest j aq=>
  refine fin _ λs hs=>?_;rcases LS.1 hs with rfl|hs
  .exact⟨j.1,c⟩
  .exact aq.2 s hs
 | ret rest aq=>
  exact xM
theorem iL:∀(b:al) (s:az),s∈b.list->s.th.num+s.el.num<b.num
 | .nil,s,h=>by simp[al.list] at h
 | .set v n e rest,s,h=>by
  rcases LS.1 h with rfl|h
  .simp[az.th,az.el,al.num]
  .have:=iL rest s h;simp only[al.num];omega
 | .call g n aT rest,s,h=>by
  rcases LS.1 h with rfl|h
  .simp[az.th,az.el,al.num]
  .have:=iL rest s h;simp only[al.num];omega
 | .lock u r rest,s,h=>by
  rcases LS.1 h with rfl|h
  .simp[az.th,az.el,al.num]
  .have:=iL rest s h;simp only[al.num];omega
 | .ite e th el rest,s,h=>by
  rcases LS.1 h with rfl|h
  .simp only[az.th,az.el,al.num];omega
  .have:=iL rest s h;simp only[al.num];omega
 | .gG e th rest,s,h=>by
  rcases LS.1 h with rfl|h
  .simp only[az.th,az.el,al.num];omega
  .have:=iL rest s h;simp only[al.num];omega
 | .ret rest,s,h=>by
  rcases LS.1 h with rfl|h
  .simp[az.th,az.el,al.num]
  .have:=iL rest s h;simp only[al.num];omega
def wR(e:VE):Prop:=∃N d,dM N/\d<=12/\e.src N d
def oU(r:eW):Prop:=bF r.name.data.toList=true/\∀e,r.idx=some e->wR e
def uI:dj->Prop
 | .mx r=>oU r
 | .ex e=>wR e
def gK:Nat->al->Prop
 | _,.nil=>True
 | d,.set _ n e rest=>bF n.data.toList=true/\wR e/\gK d rest
 | d,.call _ n aT rest=>(bF n.data.toList=true/\(∀a∈aT,uI a)/\aT.length<=1000)/\gK d rest
 | d,.lock _ r rest=>oU r/\gK d rest
 | 0,.ite ..=>False
 | 0,.gG ..=>False
 | d+1,.ite e th el rest=>wR e/\gK d th/\gK d el/\gK (d+1) rest
 | d+1,.gG e th rest=>wR e/\gK d th/\gK (d+1) rest
 | d,.ret rest=>gK d rest
def Ke(d:Nat):az->Prop
 | .set _ n e=>bF n.data.toList=true/\wR e
 | .call _ n aT=>bF n.data.toList=true/\(∀a∈aT,uI a)/\aT.length<=1000
 | .lock _ r=>oU r
 | .ite e th el=>wR e/\∃k,d=k+1/\gK k th/\gK k el
 | .gG e th=>wR e/\∃k,d=k+1/\gK k th
 | .ret=>True
theorem gZ:∀(b:al) (d:Nat),gK d b->∀s∈b.list,Ke d s
 | .nil,d,_,s,hs=>by simp[al.list] at hs
 | .set v n e rest,d,h,s,hs=>by
  have q:bF n.data.toList=true/\wR e/\gK d rest:=by cases d<;>exact h
  rcases LS.1 hs with rfl|hs
  .exact⟨q.1,q.2.1⟩
  .exact gZ rest d q.2.2 s hs
 | .call g n aT rest,d,h,s,hs=>by
  have q:(bF n.data.toList=true/\(∀a∈aT,uI a)/\aT.length<=1000)/\gK d rest:=by cases d<;>exact h
  rcases LS.1 hs with rfl|hs
  .exact q.1
  .exact gZ rest d q.2 s hs
 | .lock u r rest,d,h,s,hs=>by
  have q:oU r/\gK d rest:=by cases d<;>exact h
  rcases LS.1 hs with rfl|hs
  .exact q.1
  .exact gZ rest d q.2 s hs
 | .ite e th el rest,0,h,s,hs=>h.elim
 | .gG e th rest,0,h,s,hs=>h.elim
 | .ite e th el rest,d+1,h,s,hs=>by
  rcases LS.1 hs with rfl|hs
  .exact⟨h.1,d,rfl,h.2.1,h.2.2.1⟩
  .exact gZ rest (d+1) h.2.2.2 s hs
 | .gG e th rest,d+1,h,s,hs=>by
  rcases LS.1 hs with rfl|hs
  .exact⟨h.1,d,rfl,h.2.1⟩
  .exact gZ rest (d+1) h.2.2 s hs
 | .ret rest,d,h,s,hs=>by
  have q:gK d rest:=by cases d<;>exact h
  rcases LS.1 hs with rfl|hs
  .trivial
  .exact gZ rest d q s hs
theorem oU.src(h:oU r):E5 r:=λe he=>by
 obtain⟨N,d,_,_,hs⟩:=h.2 e he;exact⟨N,d,hs⟩
theorem uI.src{a:dj}(h:uI a):Gy a:=by
 cases a with
 | mx r=>exact oU.src h
 | ex e=>
  obtain⟨N,d,_,_,hs⟩:=h;exact⟨N,d,hs⟩
theorem wR.src{e:VE}(h:wR e):∃N d,e.src N d:=by
 obtain⟨N,d,_,_,hs⟩:=h;exact⟨N,d,hs⟩
theorem jw:∀(b:al) (d:Nat),gK d b->n7 b
 | .nil,_,_=>trivial
 | .set v n e rest,d,h=>by
  have q:bF n.data.toList=true/\wR e/\gK d rest:=by cases d<;>exact h
  exact⟨q.2.1.src,jw rest d q.2.2⟩
 | .call g n aT rest,d,h=>by
  have q:(bF n.data.toList=true/\(∀a∈aT,uI a)/\aT.length<=1000)/\gK d rest:=by cases d<;>exact h
  exact⟨⟨λa br=>(q.1.2.1 a br).src,q.1.2.2⟩,jw rest d q.2⟩
 | .lock u r rest,d,h=>by
  have q:oU r/\gK d rest:=by cases d<;>exact h
  exact⟨q.1.src,jw rest d q.2⟩
 | .ite e th el rest,0,h=>h.elim
 | .gG e th rest,0,h=>h.elim
 | .ite e th el rest,d+1,h=>⟨h.1.src,jw th d h.2.1,jw el d h.2.2.1,jw rest (d+1) h.2.2.2⟩
 | .gG e th rest,d+1,h=>⟨h.1.src,jw th d h.2.1,jw rest (d+1) h.2.2⟩
 | .ret rest,d,h=>by
  have q:gK d rest:=by cases d<;>exact h
  exact jw rest d q
theorem Fk{G:Env}(hG:og G){V:Ml}(hV:dM V)(h:su G V r):oU r:=by
 rcases h with⟨m,hm,hn,ac,ax⟩|⟨hp,al⟩
 .refine⟨by rw[<-hn];exact hG.af m hm,λe he=>?_⟩;by_cases hs:0<m.size
  .obtain⟨x,hx,aw⟩:=ac hs;rw[hx] at he;injection he with he;subst he;exact⟨V,2,hV,ad,aw⟩
  .rw[ax hs] at he;cases he
 .refine⟨hG.params _ hp,λe he=>?_⟩;rw[al] at he;cases he
theorem yA{G:Env}(hG:og G){V:Ml}(hV:dM V):∀(ps:List (ByteArray×Bool)) (aT:List dj),iX G V ps aT->(∀a∈aT,uI a)/\aT.length=ps.length
 | [],[],_=>⟨λa h=>by simp at h,rfl⟩
 | p::ps,a::aT,h=>by
  obtain⟨j,o⟩:=yA hG hV ps aT h.2;refine⟨λx hx=>?_,by simp[o]⟩;rcases LS.1 hx with rfl|hx
  .cases x with
   | mx r=>exact Fk hG hV h.1.2
   | ex e=>exact⟨V,2,hV,ad,h.1.2⟩
  .exact j x hx
 | [],_::_,h=>h.elim
 | _::_,[],h=>h.elim
theorem ky{G:Env}(hG:og G):∀(b:al) (d:Nat) (V T:Ml),dM V->fk G d V T b->gK d b
 | .nil,d,V,T,hV,h=>by cases d<;>trivial
 | .set true n e rest,d,V,T,hV,h=>by
  have q:bF n.data.toList=true/\n∉T/\e.src V 2/\fk G d (V++[n]) (T++[n]) rest:=by cases d<;>exact h
  have aq:=ky hG rest d _ _ (j9 hV q.1) q.2.2.2;have r:bF n.data.toList=true/\wR e/\gK d rest:=⟨q.1,⟨V,2,hV,ad,q.2.2.1⟩,aq⟩
  cases d<;>exact r
 | .set false n e rest,d,V,T,hV,h=>by
  have q:n∈V/\e.src V 2/\fk G d V T rest:=by cases d<;>exact h
  have aq:=ky hG rest d _ _ hV q.2.2;have r:bF n.data.toList=true/\wR e/\gK d rest:=⟨hV n q.1,⟨V,2,hV,ad,q.2.1⟩,aq⟩
  cases d<;>exact r
 | .call g n aT rest,d,V,T,hV,h=>by
  have q:(∃ps,(n,ps)∈G.funcs/\iX G V ps aT)/\fk G d V T rest:=by cases d<;>exact h
  have aq:=ky hG rest d _ _ hV q.2;obtain⟨ps,cl,aG⟩:=q.1;obtain⟨i,y⟩:=yA hG hV ps aT aG;have J:=hG.funcs _ cl;have hle:aT.length<=1000:=by have:=J.2;simp only[] at this;omega
  have r:(bF n.data.toList=true/\(∀a∈aT,uI a)/\aT.length<=1000)/\gK d rest:=⟨⟨J.1,i,hle⟩,aq⟩
  cases d<;>exact r
 | .lock u r rest,d,V,T,hV,h=>by
  have q:su G V r/\fk G d V T rest:=by cases d<;>exact h
  have aq:=ky hG rest d _ _ hV q.2;have r:oU r/\gK d rest:=⟨Fk hG hV q.1,aq⟩
  cases d<;>exact r
 | .ite e th el rest,0,V,T,hV,h=>h.elim
 | .gG e th rest,0,V,T,hV,h=>h.elim
 | .ite e th el rest,d+1,V,T,hV,h=>⟨⟨V,2,hV,ad,h.1⟩,ky hG th d V T hV h.2.1,ky hG el d V T hV h.2.2.1,ky hG rest (d+1) V T hV h.2.2.2⟩
 | .gG e th rest,d+1,V,T,hV,h=>⟨⟨V,2,hV,ad,h.1⟩,ky hG th d V T hV h.2.1,ky hG rest (d+1) V T hV h.2.2⟩
 | .ret rest,d,V,T,hV,h=>by
  have q:fk G d V T rest:=by cases d<;>exact h
  have aq:=ky hG rest d _ _ hV q;cases d<;>exact aq
def h8(g:ByteArray×Int):List UInt8:=aV (h1 g)
def kv(m:bL):List UInt8:=aV (h2 m)
def ku(f:aG):List UInt8:=aV (hZ f)
def hz(l:List (ByteArray×Bool)):List UInt8:=aV (eh (l.map gR))
theorem Ei(g:ByteArray×Int):h8 g=[118,97,114,32]++(g.1.data.toList++((if g.2=0 then [] else [32,61,32]++aV (h3 g.2))++[59,10])):=by
 unfold h8 h1;split
 .simp[aV,Atom.bytes,kw]
 .simp only[a1,a9,LR];simp[aV,Atom.bytes,kw]
theorem Ey(m:bL):kv m=(if m.re then [114] else [])++([109,117,116,101,120,32]++(m.name.data.toList++((if 0<m.size then [91]++(aV (h3 m.size)++[93]) else [])++[59,10]))):=by
 unfold kv h2;by_cases h:0<m.size
 .cases m.re<;>simp[h,aV,Atom.bytes,kw,ga]
 .cases m.re<;>simp[h,aV,Atom.bytes,kw,ga]
theorem qO{l:List (ByteArray×Bool)}{q:ByteArray×Bool}(h:l[k]?=some q):hz (l.take (k+1))=hz (l.take k)++((if 0<k then [44,32] else [])++((if q.2 then [109,117,116,101,120,32] else [])++q.1.data.toList)):=by
 have aj:k<l.length:=(List.getElem?_eq_some_iff.1 h).1;have bv:aV (gR q)=(if q.2 then [109,117,116,101,120,32] else [])++q.1.data.toList:=by
  unfold gR;split<;>simp[aV,Atom.bytes,kw,ga]
 unfold hz;rw[List.take_add_one,h,LJ];show aV (eh (List.map gR (List.take k l)++[gR q]))=_
 rw[mj];by_cases h0:0<k
 .rw[if_neg (by intro e;have:=congrArg List.length e;simp only[LG,List.length_take,LX] at this;omega),if_pos h0,a9,a1,a1,bv];simp[Atom.bytes]
 .obtain rfl:k=0:=ad;simp[eh,aV,<-bv]
theorem Ea(f:aG):ku f=[102,117,110,99,32]++(f.name.data.toList++([40]++(hz f.params++([41,32,123,10]++(cF 1 f.body++[125,10]))))):=by
 unfold ku hZ hz cF;simp only[a1,a9];simp[aV,Atom.bytes,kw]
theorem mb(f:α->List Atom)(l:List α):aV (l.flatMap f)=(l.map λx=>aV (f x)).flatten:=by
 induction l with
 | nil=>rfl
 | cons a l aq=>rw[LY,a9,aq];simp
def fA{α:Type}(f:α->List UInt8)(l:List α):List UInt8:=(l.map f).flatten
theorem nA{f:α->List UInt8}{l:List α}{x:α}(h:l[k]?=some x):fA f (l.take (k+1))=fA f (l.take k)++f x:=by
 unfold fA;rw[List.take_add_one,h,LJ,List.flatten_append];simp
theorem k9(f:α->List UInt8)(l:List α)(k:Nat):(fA f (l.take k)).length<=(fA f l).length:=by
 conv=>rhs;rw[<-List.take_append_drop k l]
 unfold fA;rw[LJ,List.flatten_append,LD];omega
theorem sb(p:bM):aV (fQ p)=fA h8 p.globals++(fA kv p.af++fA ku p.funcs):=by
 unfold fQ;rw[a9,a9,mb,mb,mb];rfl
section
theorem jk(A:Mk)(c:Nat)(w:World):Calls prog 127 #[.agg #[.int .i64 0,.int .i64 0,.string ⟨#[]⟩,.slice A 0 c]] w λe ab=>e=.returned (.bool true)/\Ext w ab:=by
 go_enter func127,ntmps127;exact vL
theorem gX(A:Mk)(c:Nat)(w:World):Calls prog 129 #[.agg #[.string ⟨#[]⟩,.slice A 0 c]] w λe ab=>e=.returned (.bool true)/\Ext w ab:=by
 go_enter func129,ntmps129;exact vL
def sC(x:VE):Prop:=∀(op n:Int) (s:ByteArray) (A:Mk) (m c:Nat) (w:World),(bk x).rep w (av w) [.int .i64 op,.int .i64 n,.string s,.slice A m c]->
 Calls prog 143 #[.agg #[.int .i64 op,.int .i64 n,.string s,.slice A m c]] w λe ab=>e=.returned (.bool true)/\Ext w ab
namespace Dc
theorem pM(h:p:=by
 obtain⟨bM,cM⟩:=aH hs aq;clear a9 aq;go_enter func143,ntmps143;go_wp2_with(fail);generalize bd:World.alloc _ _=W;have aF:=aZ bd;have aS:=aN bd;clear bd;refine(gE x.a2 W).mono ?_;rintro e aP ⟨rfl,ar⟩;have bj:=ae (aF.trans ar);have bH:=ae (aS.aj ar);obtain⟨a0,ak,af⟩:=(aS.aj ar).two;clear aF aS ar;have P:=hs.1;rw[LG] at P;clear hs;have key:∀(n0:Nat) (ai:x.args.length=n0),True:=λ_ _=>trivial;clear key
 cases x with
 | num n=>
  have hn:0<=n/\n<4611686018427387904:=by cases d<;>exact hx
  obtain rfl:0=m:=P;simp only[VE.a2,VE.numOf,VE.bt] at *;have b8:decide (n>=0)=true:=by simp;omega
  rw[show cZ 1=6 by decide];clear hx bM cM hn;go_wp2;go_quiet (fail)
  go_wp2;refine wp_loop_rounds 1 ?_;rw[rounds_succ];go_wp2;go_ret
  exact⟨rfl,bj.drewN _⟩
 | ha s=>
  have hs:s∈N:=by cases d<;>exact hx
  obtain rfl:0=m:=P;simp only[VE.a2,VE.numOf,VE.bt] at *;have Q:=ae (show jN s=true from hN s hs);have U:s.size<=1000000:=by
   have:=eF (hN s hs);have ax:s.size=s.data.toList.length:=rfl;omega
  rw[show cZ 2=6 by decide];clear hx bM cM hs;go_wp2;refine eK (λ_=>False) [(0,3),(1,0),(2,3),(3,3),(4,3),(5,0),(6,3),(7,3),(8,3),(9,3),(10,0),(11,3),(12,3),(13,3),(14,0),(15,3),(16,3),(17,3),(18,0),(19,3),(20,3),(21,3),(22,3),(23,0),(24,1),(25,3),(26,3),(27,3)] ?_;refine pf ?_;refine ph ?_
  iterate 2 refine pf ?_
  refine dv rfl (by rfl) ?_
  try simp only[PU]
  refine iw rfl (by rfl) ?_
  try simp only[PU]
  refine dv rfl (by rfl) ?_
  try simp only[PU]
  iterate 2 refine pf ?_
  refine dv rfl (by rfl) ?_
  try simp only[PU]
  refine iw rfl (by rfl) ?_
  try simp only[PU]
  refine dv rfl (by rfl) ?_
  try simp only[PU]
  iterate 2 refine pf ?_
  refine ph ?_
  iterate 3 refine pf ?_
  refine ph ?_
  iterate 4 refine pf ?_
  refine ph ?_;refine aI rfl (λK hK=>?_);go_simp;refine(hq s _ U).mono ?_;rintro e aW ⟨rfl,bL⟩;rw[Q.o];refine dP hK (bL) ?_;clear hK K
  iterate 3 refine pf ?_
  refine aC ?_;have a7:=ae (bj.trans (Fr.aF bL));have bV:=(show ao aP w.heap.size 56 _ from bH.o).aj (Fr.aF bL);obtain⟨a8,am,aJ⟩:=bV.two;clear bL a0 ak af bV;go_wp2;refine wp_loop_rounds 1 ?_;rw[rounds_succ];go_wp2;go_ret
  exact⟨rfl,a7.o⟩
 | loc j=>exact(by cases d<;>exact hx:False).elim
 | iK j=>exact(by cases d<;>exact hx:False).elim
 | un op y=>
  obtain rfl:1=m:=P
  have co:op=3\/op=4:=by cases d with
   | zero=>exact hx.elim
   | succ d=>exact hx.1
  simp only[VE.a2,VE.numOf,VE.bt] at *;rw[show cZ op=5 by rcases co with rfl|rfl<;>decide];clear hx co;go_wp2;go_loopw [6] (λL wr=>∃k:Nat,k<=1/\L=.int .i64 k/\Ext w wr/\ao wr w.heap.size 56 #[.int .i64 op,.int .i64 0,.string ⟨#[]⟩,.slice A 1 c]) (λL _=>1 - (intOf L).toNat)
  case atStart=>exact⟨0,ad,rfl,bj.o,bH.o⟩
  case round=>
   obtain⟨k,aj,rfl,aF,aS⟩:=hrel;clear bj bH a0 ak af;obtain⟨bj,bH⟩:=aH aF aS;obtain⟨a0,ak,af⟩:=aS.two;by_cases ap:k<1
   .obtain⟨b,o,z,cs,rfl,O,bb,aa,bq,Z⟩:=(bM.on (Fr.ext aF)).g9 db ap;clear aF aS
    match cs,bq with
    | [b1,cn,cm,bv],_=>
    exact G5
   .obtain rfl:k=1:=ad;clear aF aS;go_wp2;go_ret
    exact⟨rfl,bj.o⟩
 | bin op y z=>
  obtain rfl:2=m:=P
  have co:5<=op/\op<=17:=by cases d with
   | zero=>exact hx.elim
   | succ d=>exact hx.1
  obtain⟨g,bo,f,_⟩:=ve co;simp only[VE.a2,VE.numOf,VE.bt] at *;rw[f];have dp:((g:Int) == 6)=false:=by simp;omega
  have q5:((g:Int) == 5)=false:=by simp;omega
  clear hx co bo f;go_wp2;go_loopw [6] (λL wr=>∃k:Nat,k<=2/\L=.int .i64 k/\Ext w wr/\ao wr w.heap.size 56 #[.int .i64 op,.int .i64 0,.string ⟨#[]⟩,.slice A 2 c]) (λL _=>2 - (intOf L).toNat)
  case atStart=>exact⟨0,ad,rfl,bj.o,bH.o⟩
  case round=>
   obtain⟨k,aj,rfl,aF,aS⟩:=hrel;clear bj bH a0 ak af dp q5;obtain⟨bj,bH⟩:=aH aF aS;obtain⟨a0,ak,af⟩:=aS.two;by_cases ap:k<2
   .obtain⟨b,o,z,cs,rfl,O,bb,aa,bq,Z⟩:=(bM.on (Fr.ext aF)).g9 db ap;clear aF aS
    match cs,bq with
    | [b1,cn,cm,bv],_=>
    exact G5
   .obtain rfl:k=2:=ad;clear aF aS;go_wp2;go_ret;exact⟨rfl,bj.o⟩
 ):p:=h
end Dc
open Dc in
theorem w9(N:Ml)(hN:dM N)(d:Nat)(x:VE)(hx:x.src N d)(aq:∀(k:Nat) (y:VE),x.args[k]?=some y->sC y):sC x:=by
 intro op n s A m c w a9;exact pL
theorem Gz{N:Ml}{C:VE->Nat->Prop}(f:∀(d:Nat) (x:VE),x.src N d->(∀(k:Nat) (y:VE),x.args[k]?=some y->∃e,d=e+1/\C y e)->C x d):∀(d:Nat) (x:VE),x.src N d->C x d:=by
 intro d
 induction d with
 | zero=>exact λx hx=>f 0 x hx λk y bb=>by rw[qY hx] at bb;simp at bb
 | succ d aq=>exact λx hx=>f (d+1) x hx λk y bb=>⟨d,rfl,aq y (qX hx bb)⟩
theorem zw(N:Ml)(hN:dM N)(d:Nat)(x:VE)(hx:x.src N d):sC x:=
 Gz (C:=λx _=>sC x) (λd x hx aq=>w9 N hN d x hx λk y bb=>by obtain⟨_,_,h⟩:=aq k y bb;exact h) d x hx
def sx(x:VE)(d:Nat):Prop:=∀(op n:Int) (s:ByteArray) (A:Mk) (m c:Nat) (w:World),(bk x).rep w (av w) [.int .i64 op,.int .i64 n,.string s,.slice A m c]->
 Calls prog 144 #[.agg #[.int .i64 op,.int .i64 n,.string s,.slice A m c]] w λe ab=>(∃h:Int,e=.returned (.int .i64 h)/\0<=h/\h<=2*d)/\Ext w ab
attribute [local go_sem ↓] gC gD
namespace Dd
theorem pM(h:p:=by
 have ay:m<=2:=by rw[<-hs.1,LG];exact tW x
 have dy:m=x.args.length:=by rw[<-hs.1,LG]
 obtain⟨eV,aR,bM,cM⟩:=jc dy hx hs aq;clear a9 aq hs hx dy;go_enter func144,ntmps144;go_wp2;generalize bd:World.alloc _ _=W;have aF:=aZ bd;have aS:=aN bd;clear bd;obtain⟨bj,bH⟩:=aH aF aS;clear aF aS;go_loopw [3,4] (λbG L wr=>∃(k:Nat) (h:Int),k<=m/\L=.int .i64 k/\bG=.int .i64 h/\0<=h/\(h=0\/h+1<=2*d)/\Ext w wr/\ao wr w.heap.size 56 #[.int .i64 x.a2,.int .i64 x.numOf,.string x.bt,.slice A m c]) (λ_ L _=>m - (intOf L).toNat)
 case atStart=>exact⟨0,0,ad,rfl,rfl,ad,.inl rfl,bj.o,bH.o⟩
 case round=>
  obtain⟨k,h,aj,rfl,rfl,f,ag,aF,aS⟩:=hrel;clear bj bH;obtain⟨bj,bH⟩:=aH aF aS;obtain⟨a0,ak,af⟩:=aS.two;by_cases ap:k<m
  .obtain⟨b,o,z,cs,rfl,O,bb,aa,bq,Z⟩:=(bM.on (Fr.ext aF)).g9 db ap;clear aF aS
   match cs,bq with
   | [b1,cn,cm,bv],_=>
   have c0:=Z 0 b1 rfl;have c1:=Z 1 cn rfl;have c2:=Z 2 cm rfl;have c3:=Z 3 bv rfl;simp only[LM] at c0;have a4:b<wr.heap.size:=O;clear Z O;obtain⟨B,br,bc,e,cv,ci⟩:=aX.1 aa;simp only[List.cons.injEq,and_true] at e;obtain⟨rfl,rfl,rfl,rfl⟩:=e;obtain⟨e0,S,hC⟩:=cM.o k z bb;obtain⟨bW,bF,H⟩:=eS hC bb aa;clear bb aa ci hC;go_wp2_with(fail);refine(bW.o _ _ _ _ _ _ wr H.o).mono ?_;rintro e aW ⟨⟨ax,rfl,g,i⟩,bL⟩;have a7:=ae (bj.trans bL);have b9:=ae (bH.aj bL);have d0:=(bL.cell (j:=o+k*4) a4 (λh=>h)).trans c0;have bg:b<aW.heap.size:=LC a4 bL.size;have b7:k<=1:=ad;clear bL a0 ak af c0 c1 c2 c3 a4;obtain⟨a0,ak,af⟩:=b9.two;go_wp2_with(fail);refine(r2 x.a2 x.numOf z.a2 x.bt b o m c k aW b7 ap bg d0).mono ?_;rintro e b4 ⟨rfl,bT⟩;have ba:=ae (a7.trans bT);have a3:=ae (b9.aj bT);clear bT a0 ak af d0 bg;cases dE x.a2 z.a2 (k == 1)
   .go_wp2;go_roundw
    case rel=>exact⟨k+1,max h ax,ad,by go_num,rfl,ad,.inr ad,ba.o,a3.o⟩
    case measure=>exact aE
   .go_wp2;go_roundw
    case rel=>exact⟨k+1,max h (ax+1),ad,by go_num,rfl,ad,.inr ad,ba.o,a3.o⟩
    case measure=>exact aE
  .obtain rfl:k=m:=ad;clear aF aS;have hf:decide ((k:Int)<(k:Int))=false:=by simp
   go_wp2_with(fail);refine(gE x.a2 wr).mono ?_;rintro e aW ⟨rfl,bL⟩;have a7:=ae (bj.trans bL);clear bL;by_cases cy:cZ x.a2=5
   .have O:h+1<=2*d:=by
     rcases ag with rfl|ag
     .have:0<d:=by
       rcases Nat.eq_zero_or_pos d with h0|h0
       .exfalso;subst h0;have ac:=aR.o;cases x<;>first|exact ac.elim|exact absurd cy (show ¬cZ 1=5 by decide)|exact absurd cy (show ¬cZ 2=5 by decide)
       .exact h0
      omega
     .exact ag
    rw[cy];go_wp2;go_ret;exact⟨⟨h+1,rfl,ad,O⟩,a7.o⟩
   .have q5:(cZ x.a2 == 5)=false:=by simpa using cy
    go_wp2;go_ret;exact⟨⟨h,rfl,f,ad⟩,a7.o⟩
 ):p:=h
end Dd
open Dd in
theorem oy(N:Ml)(d:Nat)(hd:d<=1000)(x:VE)(hx:x.src N d)(aq:∀(k:Nat) (y:VE),x.args[k]?=some y->∃e,d=e+1/\sx y e):sx x d:=by
 intro op n s A m c w a9;exact pL
theorem wz(N:Ml):∀(d:Nat),d<=1000->∀(x:VE),x.src N d->sx x d:=by
 intro d
 induction d with
 | zero=>exact λhd x hx=>oy N 0 hd x hx λk y bb=>by rw[qY hx] at bb;simp at bb
 | succ d aq=>exact λhd x hx=>oy N (d+1) hd x hx λk y bb=>⟨d,rfl,aq ad y (qX hx bb)⟩
theorem fL(x:VE)(hx:wR x)(op n:Int)(s:ByteArray)(A:Mk)(m c:Nat)(w:World)(a9:(bk x).rep w (av w) [.int .i64 op,.int .i64 n,.string s,.slice A m c]) :
  Calls prog 126 #[.agg #[.int .i64 op,.int .i64 n,.string s,.slice A m c]] w λe ab=>e=.returned (.bool true)/\Ext w ab:=by
 obtain⟨N,d,hN,hd,hs⟩:=hx;have a2:=ae a9;have b:=ae (zw N hN d x hs);have a:=ae (wz N d ad x hs);clear a9 hs hN;go_enter func126,ntmps126;go_wp2_with(fail);generalize bd:World.alloc _ _=W;have aF:=aZ bd;have aS:=aN bd;clear bd;refine(b.o _ _ _ _ _ _ W (D.on a2.o (Fr.ext aF))).mono ?_;rintro e aW ⟨rfl,bL⟩;have a7:=ae (aF.trans bL);obtain⟨a0,ak,af⟩:=(aS.aj bL).two;clear aF aS bL;go_wp2_with(fail);refine(a.o _ _ _ _ _ _ aW (D.on a2.o (Fr.ext a7.o))).mono ?_;rintro e b4 ⟨⟨h,rfl,h0,ac⟩,bT⟩;have ba:=ae (a7.trans bT);have q:decide (h<=24)=true:=by simp;omega
 clear bT a0 ak af;go_wp2;go_ret;exact⟨rfl,ba.o⟩
theorem r8(r:eW)(a9:oU r)(s:ByteArray)(A:Mk)(n c:Nat)(w:World)(h:(kL r).rep w (av w) [.string s,.slice A n c]) :
  Calls prog 128 #[.agg #[.string s,.slice A n c]] w λe ab=>e=.returned (.bool true)/\Ext w ab:=by
 obtain⟨I,aQ,aD,e,aK,hs⟩:=jG.1 h;simp only[List.cons.injEq,Value.string.injEq,Value.slice.injEq,and_true] at e;obtain⟨rfl,rfl,rfl,rfl⟩:=e;have Q:=ae (show jN r.name=true from a9.1);have U:r.name.size<=1000000:=by
  have:=eF a9.1;have ax:r.name.size=r.name.data.toList.length:=rfl;omega
 obtain⟨cc,bM⟩:=aH a9.2 hs;clear h hs a9;go_enter func128,ntmps128;go_wp2_with(fail);generalize bd:World.alloc _ _=W;have aF:=aZ bd;have aS:=aN bd;clear bd;refine(hq r.name W U).mono ?_;rintro e aW ⟨rfl,bL⟩;rw[Q.o];have a7:=ae (aF.trans bL);have b9:=ae (aS.aj bL);obtain⟨a0,ak,af⟩:=(aS.aj bL).two;clear aF aS bL
 cases al:r.idx with
 | none=>
  have h0:=bM.1;rw[al] at h0;obtain rfl:0=n:=h0;clear al;go_wp2;go_ret
  exact⟨rfl,a7.o⟩
 | some x=>
  have aR:=ae (cc.o x al);have h0:=bM.on (Fr.ext a7.o);rw[al] at h0;obtain rfl:1=n:=h0.1;obtain⟨b,o,bU,Z,bm,E,rfl,O,az,c0,c1,c2,c3⟩:=Sl.ED h0 (db x);obtain⟨B,br,bc,e,cv,ci⟩:=aX.1 az;simp only[List.cons.injEq,and_true] at e;obtain⟨rfl,rfl,rfl,rfl⟩:=e;have a4:b<aW.heap.size:=O;have H:=ae az;clear al h0 ci az O cc bM;go_wp2_with(fail);refine(fL x aR.o _ _ _ _ _ _ aW H.o).mono ?_;rintro e b4 ⟨rfl,bT⟩;have ba:=ae (a7.trans bT);clear bT;go_wp2;go_ret;exact⟨rfl,ba.o⟩
end
theorem k8{eo en:Int}{es:ByteArray}{EA:Mk}{em ec:Nat}(h:(oS none).rep w P [.int .i64 eo,.int .i64 en,.string es,.slice EA em ec]):eo=0/\en=0/\es=⟨#[]⟩/\em=0:=by
 obtain⟨A,c,e⟩:=fv.1 h;simp only[List.cons.injEq,Value.int.injEq,Value.string.injEq,Value.slice.injEq,and_true,true_and] at e;exact⟨e.1,e.2.1,e.2.2.1,e.2.2.2.2.1⟩
theorem hJ{A:Mk}{n c:Nat}(h:(qb none).rep w P [.string s,.slice A n c]):s=⟨#[]⟩/\n=0:=by
 unfold qb gj at h;rw[bJ,ct] at h;obtain⟨y,e,h⟩:=h;injection e with e1 e2;injection e1 with e1;subst e2;obtain⟨I,aQ,aD,cm,e,_,hs,ax⟩:=aL.1 h;injection e with e2 e3;injection e2 with _ e2 _;exact⟨e1,by rw[e2];exact hs.1.symm⟩
theorem D7(h:(eO (.mx r)).rep w P cs):∃s A n c EA ec,cs=[.bool true,.string s,.slice A n c,.int .i64 0,.int .i64 0,.string ⟨#[]⟩,.slice EA 0 ec]/\(kL r).rep w P [.string s,.slice A n c]:=by
 exact Hf
namespace De
theorem vV(h:p:=by
 obtain⟨A,n,c,cy,rfl,_,hs,aG⟩:=aL.1 hx;rw[aQ] at aG;subst aG;obtain rfl:n=0:=hs.1.symm;exact z1
 ):p:=h
end De
open De in
theorem D5{e:VE}(h:(eO (.ex e)).rep w P cs):∃cc rc op n s A m c,cs=[.bool false,.string ⟨#[]⟩,.slice cc 0 rc,.int .i64 op,.int .i64 n,.string s,.slice A m c]/\(bk e).rep w P [.int .i64 op,.int .i64 n,.string s,.slice A m c]:=by
 exact vU
theorem iu(h:bF s.data.toList=true):s.size<=1000000:=by
 have:=eF h;have ax:s.size=s.data.toList.length:=rfl;omega
def GN(b:al):Prop:=∀(d deep:Nat) (A:Mk) (n c:Nat) (w:World),gK d b->b.num<=1000000->deep+d<=23->Sl w (av w) A n (c7 b)->
 Calls prog 109 #[.slice A n c,.int .i64 deep] w λe ab=>e=.returned (.bool true)/\Ext w ab
namespace Df
theorem vR(h:p:=by
 have X:=ae E;clear Z dN E cm bq O;go_upto_region 7 with(fail);generalize bd:World.alloc wr _=W;have l:=aZ bd;have aS:=aN bd;have z:=ae X.o;have N:=ae (bj.trans l);obtain⟨q,x⟩:=aH l aS;obtain⟨a0,ak,af⟩:=aS.two;clear bd l aS d0 d1 d2 d3 d4 d5 d6 d7 d8 d9 d10 X a4
 cases s with
 | set v nm e=>
  obtain⟨R,hex⟩:=an.o;have Q:=ae (show jN nm=true from R);have U:=iu (show bF nm.data.toList=true from R);have bw:=ae hex;obtain⟨rfl,rfl⟩:=hJ z.ref;obtain rfl:0=n1:=z.args.1;obtain rfl:0=n2:=z.th.1;obtain rfl:0=n3:=z.el.1;clear R hex;simp only[az.kind,az.name] at *;cases v
  all_goals as_aux_lemma=>
   simp only[Me,if_false,if_true] at *;go_wp2_with(fail);refine(hq nm _ U).mono ?_;rintro e aC ⟨rfl,he⟩;have bu:=ae (N.trans he);have m:=ae (q.trans he);have G:=ae (x.aj he);clear he a0 ak af N q x;obtain⟨a0,ak,af⟩:=G.two;rw[Q.o];go_wp2_with(fail);refine(fL e bw.o _ _ _ _ _ _ _ (D.on z.expr (Fr.ext m.o))).mono ?_;rintro e aD ⟨rfl,he⟩;have a7:=ae (bu.trans he);have y:=ae (m.trans he);have b9:=ae (G.aj he);clear he a0 ak af bu m G;obtain⟨a0,ak,af⟩:=b9.two;go_wp2_with(fail);refine(gX _ _ _).mono ?_;rintro e aP ⟨rfl,he⟩;have ba:=ae (a7.trans he);have J:=ae (y.trans he);have a3:=ae (b9.aj he);clear he a0 ak af a7 y b9;obtain⟨a0,ak,af⟩:=a3.two;go_wp2;refine wp_loop_rounds 1 ?_;rw[rounds_succ]
   exact xN
 | call g nm aT=>
  obtain⟨R,aG,hlen⟩:=an.o;have Q:=ae (show jN nm=true from R);have U:=iu (show bF nm.data.toList=true from R);obtain⟨rfl,rfl,rfl,rfl⟩:=k8 z.expr;obtain⟨rfl,rfl⟩:=hJ z.ref;have au:=ae aG;have cP:n1<=1000:=by have:=z.args.1;rw[LG] at this;simp only[az.args] at this;omega
  obtain rfl:0=n2:=z.th.1;obtain rfl:0=n3:=z.el.1;clear R aG hlen;simp only[az.kind,az.name] at *;cases g
  all_goals as_aux_lemma=>
   simp only[Me,if_false,if_true] at *;go_wp2_with(fail);refine(hq nm _ U).mono ?_;rintro e aC ⟨rfl,he⟩;have bu:=ae (N.trans he);have m:=ae (q.trans he);have G:=ae (x.aj he);clear he a0 ak af N q x;obtain⟨a0,ak,af⟩:=G.two;rw[Q.o];go_wp2_with(fail);refine(jk _ _ _).mono ?_;rintro e aD ⟨rfl,he⟩;have a7:=ae (bu.trans he);have y:=ae (m.trans he);have b9:=ae (G.aj he);clear he a0 ak af bu m G;obtain⟨a0,ak,af⟩:=b9.two;go_wp2_with(fail);refine(gX _ _ _).mono ?_;rintro e aP ⟨rfl,he⟩;have ba:=ae (a7.trans he);have J:=ae (y.trans he);have a3:=ae (b9.aj he);clear he a0 ak af a7 y b9;obtain⟨a0,ak,af⟩:=a3.two;go_wp2;have aU:=ae (show Sl wr (av wr) cp n1 (aT.map eO) from z.args);go_loopw [12] (λbR bp=>∃j:Nat,j<=n1/\bR=.int .i64 j/\Ext w bp/\Ext wr bp/\ao bp wr.heap.size 188 _) (λbR _=>n1 - (intOf bR).toNat)
   case atStart=>exact⟨0,ad,rfl,ba.o,J.o,a3.o⟩
   case round=>
    obtain⟨j,bi,rfl,aF,ax,aS⟩:=hrel;clear ba J a3 a0 ak af;obtain⟨ba,J,a3⟩:=eS aF ax aS;obtain⟨a0,ak,af⟩:=aS.two;by_cases aa:j<n1
    .obtain⟨ab,cV,a,cs,rfl,ay,E,ah,aI,f⟩:=(aU.on (Fr.ext ax)).g9 s3 aa;have H:ab<wr.heap.size:=ay;have aQ:=ae (au.o a (LF E))
     cases a with
     | mx r=>
      obtain⟨aX,bc,bn,ac,bk,bm,rfl,aA⟩:=D7 ah;have f0:=f 0 _ rfl;have f1:=f 1 _ rfl;have f2:=f 2 _ rfl;have f3:=f 3 _ rfl;have f4:=f 4 _ rfl;have f5:=f 5 _ rfl;have f6:=f 6 _ rfl;simp only[LM] at f0;have I:=ae aA;clear f ah aA E aI ay aF ax aS;go_upto_region 17 with(fail);generalize hV:World.alloc _ _=V;have T:=aZ hV;have hC:=aN hV;have cd:=ae (ba.trans T);have ag:=ae (J.trans T);have cg:=ae (a3.aj T);have aL:=ae (D.on I.o (Fr.ext T));have bW:=ae hC;clear T hC hV a0 ak af ba J a3 I f0 f1 f2 f3 f4 f5 f6 H;obtain⟨a0,ak,af⟩:=bW.two;go_wp2_with(fail);refine(r8 r aQ.o _ _ _ _ _ aL.o).mono ?_;rintro a8 a6 ⟨rfl,S⟩;have F:=ae (cd.trans S);have aO:=ae (ag.trans S);have aw:=ae (cg.aj S);have bW:=ae (bW.aj S);clear a0 ak af cd ag cg;obtain⟨a0,ak,af⟩:=bW.two;go_wp2_with(fail);refine(jk _ _ _).mono ?_
      exact Hc
     | ex e=>
      obtain⟨bl,bf,P,be,aX,bc,am,ac,rfl,aA⟩:=D5 ah;have f0:=f 0 _ rfl;have f1:=f 1 _ rfl;have f2:=f 2 _ rfl;have f3:=f 3 _ rfl;have f4:=f 4 _ rfl;have f5:=f 5 _ rfl;have f6:=f 6 _ rfl;simp only[LM] at f0;have I:=ae aA;clear f ah aA E aI ay aF ax aS;go_upto_region 17 with(fail);generalize hV:World.alloc _ _=V;have T:=aZ hV;have hC:=aN hV;have cd:=ae (ba.trans T);have ag:=ae (J.trans T);have cg:=ae (a3.aj T);have aL:=ae (D.on I.o (Fr.ext T));have bW:=ae hC;clear T hC hV a0 ak af ba J a3 I f0 f1 f2 f3 f4 f5 f6 H;obtain⟨a0,ak,af⟩:=bW.two;go_wp2_with(fail);refine(gX _ _ _).mono ?_;rintro a8 a6 ⟨rfl,S⟩;have F:=ae (cd.trans S);have aO:=ae (ag.trans S);have aw:=ae (cg.aj S);have bW:=ae (bW.aj S);clear a0 ak af cd ag cg;obtain⟨a0,ak,af⟩:=bW.two;go_wp2_with(fail);refine(fL e aQ.o _ _ _ _ _ _ _ (D.on aL.o (Fr.ext S))).mono ?_;exact Hc
    .obtain rfl:j=n1:=ad;clear aF ax aS
     exact xN
 | lock u r=>
  obtain⟨rfl,rfl,rfl,rfl⟩:=k8 z.expr;obtain rfl:0=n1:=z.args.1;obtain rfl:0=n2:=z.th.1;obtain rfl:0=n3:=z.el.1;have a2:=ae (show oU r from an.o);simp only[az.kind,az.name] at *;cases u
  all_goals as_aux_lemma=>
   simp only[Me,if_false,if_true] at *;go_wp2_with(fail);refine(jk _ _ _).mono ?_;rintro e aC ⟨rfl,he⟩;have bu:=ae (N.trans he);have m:=ae (q.trans he);have G:=ae (x.aj he);clear he a0 ak af N q x;obtain⟨a0,ak,af⟩:=G.two;go_wp2_with(fail);refine(r8 r a2.o _ _ _ _ _ (D.on z.ref (Fr.ext m.o))).mono ?_
   exact Hd
 | ite e th el=>
  obtain⟨hex,cv,b7,aK,bZ⟩:=an.o;obtain⟨bw,ai,aY⟩:=eS hex aK bZ;have Y:=ae (show deep+1+cv<=23 by have:=dQ.o;omega);obtain⟨rfl,rfl⟩:=hJ z.ref;obtain rfl:0=n1:=z.args.1;clear hex aK bZ b7;simp only[az.kind,az.name] at *;as_aux_lemma=>
   go_wp2_with(fail);refine(fL e bw.o _ _ _ _ _ _ _ (D.on z.expr (Fr.ext q.o))).mono ?_;rintro e aC ⟨rfl,he⟩;have bu:=ae (N.trans he);have m:=ae (q.trans he);have G:=ae (x.aj he);clear he a0 ak af N q x;obtain⟨a0,ak,af⟩:=G.two;go_wp2_with(fail);refine(gX _ _ _).mono ?_;rintro e aD ⟨rfl,he⟩;have a7:=ae (bu.trans he);have y:=ae (m.trans he);have b9:=ae (G.aj he);clear he a0 ak af bu m G;obtain⟨a0,ak,af⟩:=b9.two;go_wp2;refine wp_loop_rounds 1 ?_;rw[rounds_succ];go_wp2_with(fail);refine((show GN th from aM.1) cv (deep+1) _ _ _ _ ai.o (LU (Nat.le_add_right _ _) i.o) Y.o (z.th.on (Fr.ext y.o))).mono ?_;rintro e aP ⟨rfl,he⟩;have ba:=ae (a7.trans he);have J:=ae (y.trans he);have a3:=ae (b9.aj he);clear he a0 ak af a7 y b9;obtain⟨a0,ak,af⟩:=a3.two;by_cases a1:n3=0
   .subst a1;exact xN
   .have da:decide ((n3:Int) > 0)=true:=by simp;omega
    go_wp2_with(fail);refine((show GN el from aM.2) cv (deep+1) _ _ _ _ aY.o (LU (Nat.le_add_left _ _) i.o) Y.o (z.el.on (Fr.ext J.o))).mono ?_;rintro e bg ⟨rfl,he⟩;have cd:=ae (ba.trans he);have ag:=ae (J.trans he);have cg:=ae (a3.aj he);clear he a0 ak af ba J a3;obtain⟨a0,ak,af⟩:=cg.two;go_wp2;go_roundw
    case rel=>exact⟨k+1,ad,by go_num,cd.o⟩
    case measure=>exact aE
 | gG e th=>
  obtain⟨hex,cv,b7,aK⟩:=an.o;obtain⟨bw,ai⟩:=aH hex aK;have Y:=ae (show deep+1+cv<=23 by have:=dQ.o;omega);obtain⟨rfl,rfl⟩:=hJ z.ref;obtain rfl:0=n1:=z.args.1;obtain rfl:0=n3:=z.el.1;clear hex aK b7;simp only[az.kind,az.name] at *;as_aux_lemma=>
   go_wp2_with(fail);refine(fL e bw.o _ _ _ _ _ _ _ (D.on z.expr (Fr.ext q.o))).mono ?_;rintro e aC ⟨rfl,he⟩;have bu:=ae (N.trans he);have m:=ae (q.trans he);have G:=ae (x.aj he);clear he a0 ak af N q x;obtain⟨a0,ak,af⟩:=G.two;go_wp2_with(fail);refine(gX _ _ _).mono ?_;rintro e aD ⟨rfl,he⟩;have a7:=ae (bu.trans he);have y:=ae (m.trans he);have b9:=ae (G.aj he);clear he a0 ak af bu m G;obtain⟨a0,ak,af⟩:=b9.two;go_wp2;refine wp_loop_rounds 1 ?_;rw[rounds_succ];go_wp2_with(fail);refine((show GN th from aM.1) cv (deep+1) _ _ _ _ ai.o (LU (Nat.le_add_right _ _) i.o) Y.o (z.th.on (Fr.ext y.o))).mono ?_;rintro e aP ⟨rfl,he⟩;have ba:=ae (a7.trans he);have J:=ae (y.trans he);have a3:=ae (b9.aj he);clear he a0 ak af a7 y b9;obtain⟨a0,ak,af⟩:=a3.two
   exact xN
 | ret=>
  obtain⟨rfl,rfl,rfl,rfl⟩:=k8 z.expr;obtain⟨rfl,rfl⟩:=hJ z.ref;obtain rfl:0=n1:=z.args.1;obtain rfl:0=n2:=z.th.1;obtain rfl:0=n3:=z.el.1;simp only[az.kind,az.name] at *;as_aux_lemma=>
   go_wp2_with(fail);refine(jk _ _ _).mono ?_;rintro e aC ⟨rfl,he⟩;have bu:=ae (N.trans he);have m:=ae (q.trans he);have G:=ae (x.aj he);clear he a0 ak af N q x;obtain⟨a0,ak,af⟩:=G.two;go_wp2_with(fail);refine(gX _ _ _).mono ?_;exact Hd
 ):p:=h
end Df
open Df in
theorem tq(b:al)(M:∀s∈b.list,GN s.th/\GN s.el):GN b:=by
 intro d deep A n c w b8 K aB hs;have hl:b.list.length=n:=by rw[<-hs.1,cH,LG]
 have hn:n<=1000000:=by have:=e6 b;omega
 have a9:deep<=23:=ad;have a5:decide ((deep:Int)>=24)=false:=by simp;omega
 rw[cH] at hs;obtain⟨bM,aq⟩:=aH hs M;have aR:=ae (gZ b d b8);have aV:=ae (λs (hs:s∈b.list)=>LU (Nat.le_of_lt (iL b s hs)) K);have dQ:=ae aB;clear hs M b8 K hl aB;go_enter func109,ntmps109;go_wp2;go_loopw [5] (λL wr=>∃k:Nat,k<=n/\L=.int .i64 k/\Ext w wr) (λL _=>n - (intOf L).toNat)
 case atStart=>exact⟨0,ad,rfl,Mg⟩
 case round=>
  obtain⟨k,aj,rfl,aF⟩:=hrel;have bj:=ae aF;clear aF a5;by_cases ap:k<n
  .obtain⟨bb,o,s,cs,rfl,O,cm,dN,bq,Z⟩:=(bM.on (Fr.ext bj.o)).g9 nI ap;have a4:bb<wr.heap.size:=O;have an:=ae (aR.o s (LF cm));have aM:=ae (aq.o s (LF cm));have i:=ae (aV.o s (LF cm));obtain⟨eo,en,es,EA,em,ec,rs,cc,cU,rc,cp,n1,c1,A2,n2,c2,cD,n3,c3,rfl,E⟩:=lI dN;exact vQ
  .obtain rfl:k=n:=ad;go_wp2;go_ret;exact⟨rfl,bj.o⟩
theorem uJ(b:al):GN b:=al.DV tq b
end Go.Proofs.YtflecliffjbleaaGreat

/- Part 13 of the proof. No condition of its own. -/
import Derived.Test.YtflecliffjbleaaGreatQ12
namespace Go.Proofs.YtflecliffjbleaaGreat
open Go.RowKit Go.Proofs.Tryz
set_option maxRecDepth 1000000
set_option maxHeartbeats 25600000
set_option linter.unusedVariables false
variable{s:ByteArray}{cs:List Value}{k:Nat}{P:Nat->Prop}{p:Prop}{α:Type}{w:World}{r:eN}
theorem ak.C5{C:ak->Prop}(f:∀b:ak,(∀s∈b.list,C s.th/\C s.el)->C b):∀b:ak,C b:=by
 have c:C .nil:=f .nil λs hs=>by simp[ak.list] at hs
 have fin:∀b:ak,(∀s∈b.list,C s.th/\C s.el)->C b/\∀s∈b.list,C s.th/\C s.el:=λb h=>⟨f b h,h⟩
 suffices h:∀b:ak,C b/\∀s∈b.list,C s.th/\C s.el from λb=>(h b).1
 intro b
 induction b with
 | nil=>exact fin _ λs hs=>by simp[ak.list] at hs
 | set v n e rest ao=>
  exact xA
 | call g n aI rest ao=>
  exact xA
 | lock u r rest ao=>
  exact xA
 | ite e th el rest j o ao=>
  refine fin _ λs hs=>?_;rcases Lr.1 hs with rfl|hs
  .exact⟨j.1,o.1⟩
  .exact ao.2 s hs
 | gp e th rest j ao=>
  refine fin _ λs hs=>?_;rcases Lr.1 hs with rfl|hs
  .exact⟨j.1,c⟩
  .exact ao.2 s hs
 | ret rest ao=>
  exact xA
theorem iB:∀(b:ak) (s:ax),s∈b.list->s.th.num+s.el.num<b.num
 | .nil,s,h=>by simp[ak.list] at h
 | .set v n e rest,s,h=>by
  rcases Lr.1 h with rfl|h
  .simp[ax.th,ax.el,ak.num]
  .have:=iB rest s h;simp only[ak.num];omega
 | .call g n aI rest,s,h=>by
  rcases Lr.1 h with rfl|h
  .simp[ax.th,ax.el,ak.num]
  .have:=iB rest s h;simp only[ak.num];omega
 | .lock u r rest,s,h=>by
  rcases Lr.1 h with rfl|h
  .simp[ax.th,ax.el,ak.num]
  .have:=iB rest s h;simp only[ak.num];omega
 | .ite e th el rest,s,h=>by
  rcases Lr.1 h with rfl|h
  .simp only[ax.th,ax.el,ak.num];omega
  .have:=iB rest s h;simp only[ak.num];omega
 | .gp e th rest,s,h=>by
  rcases Lr.1 h with rfl|h
  .simp only[ax.th,ax.el,ak.num];omega
  .have:=iB rest s h;simp only[ak.num];omega
 | .ret rest,s,h=>by
  rcases Lr.1 h with rfl|h
  .simp[ax.th,ax.el,ak.num]
  .have:=iB rest s h;simp only[ak.num];omega
def wE(e:VE):Prop:=∃N d,dE N/\d<=12/\e.src N d
def oI(r:eN):Prop:=bq r.name.data.toList=true/\∀e,r.idx=some e->wE e
def uz:dd->Prop
 | .mx r=>oI r
 | .ex e=>wE e
def gu:Nat->ak->Prop
 | _,.nil=>True
 | d,.set _ n e rest=>bq n.data.toList=true/\wE e/\gu d rest
 | d,.call _ n aI rest=>(bq n.data.toList=true/\(∀a∈aI,uz a)/\aI.length<=1000)/\gu d rest
 | d,.lock _ r rest=>oI r/\gu d rest
 | 0,.ite ..=>False
 | 0,.gp ..=>False
 | d+1,.ite e th el rest=>wE e/\gu d th/\gu d el/\gu (d+1) rest
 | d+1,.gp e th rest=>wE e/\gu d th/\gu (d+1) rest
 | d,.ret rest=>gu d rest
def JE(d:Nat):ax->Prop
 | .set _ n e=>bq n.data.toList=true/\wE e
 | .call _ n aI=>bq n.data.toList=true/\(∀a∈aI,uz a)/\aI.length<=1000
 | .lock _ r=>oI r
 | .ite e th el=>wE e/\∃k,d=k+1/\gu k th/\gu k el
 | .gp e th=>wE e/\∃k,d=k+1/\gu k th
 | .ret=>True
theorem gI:∀(b:ak) (d:Nat),gu d b->∀s∈b.list,JE d s
 | .nil,d,_,s,hs=>by simp[ak.list] at hs
 | .set v n e rest,d,h,s,hs=>by
  have q:bq n.data.toList=true/\wE e/\gu d rest:=by cases d<;>exact h
  rcases Lr.1 hs with rfl|hs
  .exact⟨q.1,q.2.1⟩
  .exact gI rest d q.2.2 s hs
 | .call g n aI rest,d,h,s,hs=>by
  have q:(bq n.data.toList=true/\(∀a∈aI,uz a)/\aI.length<=1000)/\gu d rest:=by cases d<;>exact h
  rcases Lr.1 hs with rfl|hs
  .exact q.1
  .exact gI rest d q.2 s hs
 | .lock u r rest,d,h,s,hs=>by
  have q:oI r/\gu d rest:=by cases d<;>exact h
  rcases Lr.1 hs with rfl|hs
  .exact q.1
  .exact gI rest d q.2 s hs
 | .ite e th el rest,0,h,s,hs=>h.elim
 | .gp e th rest,0,h,s,hs=>h.elim
 | .ite e th el rest,d+1,h,s,hs=>by
  rcases Lr.1 hs with rfl|hs
  .exact⟨h.1,d,rfl,h.2.1,h.2.2.1⟩
  .exact gI rest (d+1) h.2.2.2 s hs
 | .gp e th rest,d+1,h,s,hs=>by
  rcases Lr.1 hs with rfl|hs
  .exact⟨h.1,d,rfl,h.2.1⟩
  .exact gI rest (d+1) h.2.2 s hs
 | .ret rest,d,h,s,hs=>by
  have q:gu d rest:=by cases d<;>exact h
  rcases Lr.1 hs with rfl|hs
  .trivial
  .exact gI rest d q s hs
theorem oI.src(h:oI r):Ei r:=λe he=>by
 obtain⟨N,d,_,_,hs⟩:=h.2 e he;exact⟨N,d,hs⟩
theorem uz.src{a:dd}(h:uz a):FO a:=by
 cases a with
 | mx r=>exact oI.src h
 | ex e=>
  obtain⟨N,d,_,_,hs⟩:=h;exact⟨N,d,hs⟩
theorem wE.src{e:VE}(h:wE e):∃N d,e.src N d:=by
 obtain⟨N,d,_,_,hs⟩:=h;exact⟨N,d,hs⟩
theorem jm:∀(b:ak) (d:Nat),gu d b->nR b
 | .nil,_,_=>trivial
 | .set v n e rest,d,h=>by
  have q:bq n.data.toList=true/\wE e/\gu d rest:=by cases d<;>exact h
  exact⟨q.2.1.src,jm rest d q.2.2⟩
 | .call g n aI rest,d,h=>by
  have q:(bq n.data.toList=true/\(∀a∈aI,uz a)/\aI.length<=1000)/\gu d rest:=by cases d<;>exact h
  exact⟨⟨λa aW=>(q.1.2.1 a aW).src,q.1.2.2⟩,jm rest d q.2⟩
 | .lock u r rest,d,h=>by
  have q:oI r/\gu d rest:=by cases d<;>exact h
  exact⟨q.1.src,jm rest d q.2⟩
 | .ite e th el rest,0,h=>h.elim
 | .gp e th rest,0,h=>h.elim
 | .ite e th el rest,d+1,h=>⟨h.1.src,jm th d h.2.1,jm el d h.2.2.1,jm rest (d+1) h.2.2.2⟩
 | .gp e th rest,d+1,h=>⟨h.1.src,jm th d h.2.1,jm rest (d+1) h.2.2⟩
 | .ret rest,d,h=>by
  have q:gu d rest:=by cases d<;>exact h
  exact jm rest d q
theorem Ez{G:Env}(hG:nZ G){V:LQ}(hV:dE V)(h:rf G V r):oI r:=by
 rcases h with⟨m,hm,hn,ae,aD⟩|⟨hp,ak⟩
 .refine⟨by rw[<-hn];exact hG.ae m hm,λe he=>?_⟩;by_cases hs:0<m.size
  .obtain⟨x,hx,av⟩:=ae hs;rw[hx] at he;injection he with he;subst he;exact⟨V,2,hV,ab,av⟩
  .rw[aD hs] at he;cases he
 .refine⟨hG.params _ hp,λe he=>?_⟩;rw[ak] at he;cases he
theorem yn{G:Env}(hG:nZ G){V:LQ}(hV:dE V):∀(ps:List (ByteArray×Bool)) (aI:List dd),h2 G V ps aI->(∀a∈aI,uz a)/\aI.length=ps.length
 | [],[],_=>⟨λa h=>by simp at h,rfl⟩
 | p::ps,a::aI,h=>by
  obtain⟨j,o⟩:=yn hG hV ps aI h.2;refine⟨λx hx=>?_,by simp[o]⟩;rcases Lr.1 hx with rfl|hx
  .cases x with
   | mx r=>exact Ez hG hV h.1.2
   | ex e=>exact⟨V,2,hV,ab,h.1.2⟩
  .exact j x hx
 | [],_::_,h=>h.elim
 | _::_,[],h=>h.elim
theorem kr{G:Env}(hG:nZ G):∀(b:ak) (d:Nat) (V T:LQ),dE V->eM G d V T b->gu d b
 | .nil,d,V,T,hV,h=>by cases d<;>trivial
 | .set true n e rest,d,V,T,hV,h=>by
  have q:bq n.data.toList=true/\n∉T/\e.src V 2/\eM G d (V++[n]) (T++[n]) rest:=by cases d<;>exact h
  have ao:=kr hG rest d _ _ (j5 hV q.1) q.2.2.2;have r:bq n.data.toList=true/\wE e/\gu d rest:=⟨q.1,⟨V,2,hV,ab,q.2.2.1⟩,ao⟩
  cases d<;>exact r
 | .set false n e rest,d,V,T,hV,h=>by
  have q:n∈V/\e.src V 2/\eM G d V T rest:=by cases d<;>exact h
  have ao:=kr hG rest d _ _ hV q.2.2;have r:bq n.data.toList=true/\wE e/\gu d rest:=⟨hV n q.1,⟨V,2,hV,ab,q.2.1⟩,ao⟩
  cases d<;>exact r
 | .call g n aI rest,d,V,T,hV,h=>by
  have q:(∃ps,(n,ps)∈G.funcs/\h2 G V ps aI)/\eM G d V T rest:=by cases d<;>exact h
  have ao:=kr hG rest d _ _ hV q.2;obtain⟨ps,cq,aA⟩:=q.1;obtain⟨i,y⟩:=yn hG hV ps aI aA;have J:=hG.funcs _ cq;have hle:aI.length<=1000:=by have:=J.2;simp only[] at this;omega
  have r:(bq n.data.toList=true/\(∀a∈aI,uz a)/\aI.length<=1000)/\gu d rest:=⟨⟨J.1,i,hle⟩,ao⟩
  cases d<;>exact r
 | .lock u r rest,d,V,T,hV,h=>by
  have q:rf G V r/\eM G d V T rest:=by cases d<;>exact h
  have ao:=kr hG rest d _ _ hV q.2;have r:oI r/\gu d rest:=⟨Ez hG hV q.1,ao⟩
  cases d<;>exact r
 | .ite e th el rest,0,V,T,hV,h=>h.elim
 | .gp e th rest,0,V,T,hV,h=>h.elim
 | .ite e th el rest,d+1,V,T,hV,h=>⟨⟨V,2,hV,ab,h.1⟩,kr hG th d V T hV h.2.1,kr hG el d V T hV h.2.2.1,kr hG rest (d+1) V T hV h.2.2.2⟩
 | .gp e th rest,d+1,V,T,hV,h=>⟨⟨V,2,hV,ab,h.1⟩,kr hG th d V T hV h.2.1,kr hG rest (d+1) V T hV h.2.2⟩
 | .ret rest,d,V,T,hV,h=>by
  have q:eM G d V T rest:=by cases d<;>exact h
  have ao:=kr hG rest d _ _ hV q;cases d<;>exact ao
def hJ(g:ByteArray×Int):List UInt8:=aU (hq g)
def kn(m:bF):List UInt8:=aU (hr m)
def km(f:aA):List UInt8:=aU (ho f)
def g7(l:List (ByteArray×Bool)):List UInt8:=aU (dT (l.map gB))
theorem Dw(g:ByteArray×Int):hJ g=[118,97,114,32]++(g.1.data.toList++((if g.2=0 then [] else [32,61,32]++aU (hv g.2))++[59,10])):=by
 unfold hJ hq;split
 .simp[aU,Atom.bytes,kw]
 .simp only[aY,a2,Lq];simp[aU,Atom.bytes,kw]
theorem DL(m:bF):kn m=(if m.re then [114] else [])++([109,117,116,101,120,32]++(m.name.data.toList++((if 0<m.size then [91]++(aU (hv m.size)++[93]) else [])++[59,10]))):=by
 unfold kn hr;by_cases h:0<m.size
 .cases m.re<;>simp[h,aU,Atom.bytes,kw,fK]
 .cases m.re<;>simp[h,aU,Atom.bytes,kw,fK]
theorem qK{l:List (ByteArray×Bool)}{q:ByteArray×Bool}(h:l[k]?=some q):g7 (l.take (k+1))=g7 (l.take k)++((if 0<k then [44,32] else [])++((if q.2 then [109,117,116,101,120,32] else [])++q.1.data.toList)):=by
 have ai:k<l.length:=(List.getElem?_eq_some_iff.1 h).1;have br:aU (gB q)=(if q.2 then [109,117,116,101,120,32] else [])++q.1.data.toList:=by
  unfold gB;split<;>simp[aU,Atom.bytes,kw,fK]
 unfold g7;rw[List.take_add_one,h,Li];show aU (dT (List.map gB (List.take k l)++[gB q]))=_
 rw[mh];by_cases h0:0<k
 .rw[if_neg (by intro e;have:=congrArg List.length e;simp only[Lf,List.length_take,Lu] at this;omega),if_pos h0,a2,aY,aY,br];simp[Atom.bytes]
 .obtain rfl:k=0:=ab;simp[dT,aU,<-br]
theorem Dk(f:aA):km f=[102,117,110,99,32]++(f.name.data.toList++([40]++(g7 f.params++([41,32,123,10]++(cA 1 f.body++[125,10]))))):=by
 unfold km ho g7 cA;simp only[aY,a2];simp[aU,Atom.bytes,kw]
theorem l9(f:α->List Atom)(l:List α):aU (l.flatMap f)=(l.map λx=>aU (f x)).flatten:=by
 induction l with
 | nil=>rfl
 | cons a l ao=>rw[Lv,a2,ao];simp
def fh{α:Type}(f:α->List UInt8)(l:List α):List UInt8:=(l.map f).flatten
theorem nu{f:α->List UInt8}{l:List α}{x:α}(h:l[k]?=some x):fh f (l.take (k+1))=fh f (l.take k)++f x:=by
 unfold fh;rw[List.take_add_one,h,Li,List.flatten_append];simp
theorem k5(f:α->List UInt8)(l:List α)(k:Nat):(fh f (l.take k)).length<=(fh f l).length:=by
 conv=>rhs;rw[<-List.take_append_drop k l]
 unfold fh;rw[Li,List.flatten_append,Ld];omega
theorem sa(p:bD):aU (fA p)=fh hJ p.globals++(fh kn p.ae++fh km p.funcs):=by
 unfold fA;rw[a2,a2,l9,l9,l9];rfl
section
theorem iY(A:LP)(c:Nat)(w:World):Calls prog 127 #[.agg #[.int .i64 0,.int .i64 0,.string ⟨#[]⟩,.slice A 0 c]] w λe ac=>e=.returned (.bool true)/\Ext w ac:=by
 go_enter func127,ntmps127;exact vz
theorem gG(A:LP)(c:Nat)(w:World):Calls prog 129 #[.agg #[.string ⟨#[]⟩,.slice A 0 c]] w λe ac=>e=.returned (.bool true)/\Ext w ac:=by
 go_enter func129,ntmps129;exact vz
def su(x:VE):Prop:=∀(op n:Int) (s:ByteArray) (A:LP) (m c:Nat) (w:World),(bf x).rep w (au w) [.int .i64 op,.int .i64 n,.string s,.slice A m c]->
 Calls prog 143 #[.agg #[.int .i64 op,.int .i64 n,.string s,.slice A m c]] w λe ac=>e=.returned (.bool true)/\Ext w ac
namespace Cl
theorem pA(h:p:=by
 obtain⟨bB,ct⟩:=aM hs ao;clear aQ ao;go_enter func143,ntmps143;go_wp2_with(fail);generalize be:World.alloc _ _=W;have aE:=bb be;have aN:=aT be;clear be;refine(gk x.aZ W).mono ?_;rintro e aP ⟨rfl,ar⟩;have a8:=ad (aE.trans ar);have bx:=ad (aN.aj ar);obtain⟨a0,ap,aj⟩:=(aN.aj ar).two;clear aE aN ar;have P:=hs.1;rw[Lf] at P;clear hs;have key:∀(n0:Nat) (cv:x.args.length=n0),True:=λ_ _=>trivial;clear key
 cases x with
 | num n=>
  have hn:0<=n/\n<4611686018427387904:=by cases d<;>exact hx
  obtain rfl:0=m:=P;simp only[VE.aZ,VE.numOf,VE.bk] at *;have cg:decide (n>=0)=true:=by simp;omega
  rw[show cU 1=6 by decide];clear hx bB ct hn;go_wp2;go_quiet (fail)
  go_wp2;refine wp_loop_rounds 1 ?_;rw[rounds_succ];go_wp2;go_ret
  exact⟨rfl,a8.drewN _⟩
 | gT s=>
  have hs:s∈N:=by cases d<;>exact hx
  obtain rfl:0=m:=P;simp only[VE.aZ,VE.numOf,VE.bk] at *;have H:=ad (show jH s=true from hN s hs);have U:s.size<=1000000:=by
   have:=er (hN s hs);have aD:s.size=s.data.toList.length:=rfl;omega
  rw[show cU 2=6 by decide];clear hx bB ct hs;go_wp2;refine eU (λ_=>False) [(0,3),(1,0),(2,3),(3,3),(4,3),(5,0),(6,3),(7,3),(8,3),(9,3),(10,0),(11,3),(12,3),(13,3),(14,0),(15,3),(16,3),(17,3),(18,0),(19,3),(20,3),(21,3),(22,3),(23,0),(24,1),(25,3),(26,3),(27,3)] ?_;refine pf ?_;refine ph ?_
  iterate 2 refine pf ?_
  refine dm rfl (by rfl) ?_
  try simp only[PU]
  refine ia rfl (by rfl) ?_
  try simp only[PU]
  refine dm rfl (by rfl) ?_
  try simp only[PU]
  iterate 2 refine pf ?_
  refine dm rfl (by rfl) ?_
  try simp only[PU]
  refine ia rfl (by rfl) ?_
  try simp only[PU]
  refine dm rfl (by rfl) ?_
  try simp only[PU]
  iterate 2 refine pf ?_
  refine ph ?_
  iterate 3 refine pf ?_
  refine ph ?_
  iterate 4 refine pf ?_
  refine ph ?_;refine aO rfl (λK hK=>?_);go_simp;refine(g1 s _ U).mono ?_;rintro e aV ⟨rfl,bU⟩;rw[H.o];refine ei hK (bU) ?_;clear hK K
  iterate 3 refine pf ?_
  refine aB ?_;have a7:=ad (a8.trans (Fr.aQ bU));have bF:=(show an aP w.heap.size 56 _ from bx.o).aj (Fr.aQ bU);obtain⟨a3,am,aJ⟩:=bF.two;clear bU a0 ap aj bF;go_wp2;refine wp_loop_rounds 1 ?_;rw[rounds_succ];go_wp2;go_ret
  exact⟨rfl,a7.o⟩
 | loc j=>exact(by cases d<;>exact hx:False).elim
 | iz j=>exact(by cases d<;>exact hx:False).elim
 | un op y=>
  obtain rfl:1=m:=P
  have aG:op=3\/op=4:=by cases d with
   | zero=>exact hx.elim
   | succ d=>exact hx.1
  simp only[VE.aZ,VE.numOf,VE.bk] at *;rw[show cU op=5 by rcases aG with rfl|rfl<;>decide];clear hx aG;go_wp2;go_loopw [6] (λbc wr=>∃k:Nat,k<=1/\bc=.int .i64 k/\Ext w wr/\an wr w.heap.size 56 #[.int .i64 op,.int .i64 0,.string ⟨#[]⟩,.slice A 1 c]) (λbc _=>1 - (intOf bc).toNat)
  case atStart=>exact⟨0,ab,rfl,a8.o,bx.o⟩
  case round=>
   obtain⟨k,ai,rfl,aE,aN⟩:=hrel;clear a8 bx a0 ap aj;obtain⟨a8,bx⟩:=aM aE aN;obtain⟨a0,ap,aj⟩:=aN.two;by_cases aw:k<1
   .obtain⟨b,o,z,cs,rfl,O,a4,bS,bi,Z⟩:=(bB.on (Fr.ext aE)).gZ dg aw;clear aE aN
    match cs,bi with
    | [cu,cr,br,aa],_=>
    exact Gi
   .obtain rfl:k=1:=ab;clear aE aN;go_wp2;go_ret
    exact⟨rfl,a8.o⟩
 | bin op y z=>
  obtain rfl:2=m:=P
  have aG:5<=op/\op<=17:=by cases d with
   | zero=>exact hx.elim
   | succ d=>exact hx.1
  obtain⟨g,bj,f,_⟩:=uW aG;simp only[VE.aZ,VE.numOf,VE.bk] at *;rw[f];have c7:((g:Int) == 6)=false:=by simp;omega
  have q5:((g:Int) == 5)=false:=by simp;omega
  clear hx aG bj f;go_wp2;go_loopw [6] (λbc wr=>∃k:Nat,k<=2/\bc=.int .i64 k/\Ext w wr/\an wr w.heap.size 56 #[.int .i64 op,.int .i64 0,.string ⟨#[]⟩,.slice A 2 c]) (λbc _=>2 - (intOf bc).toNat)
  case atStart=>exact⟨0,ab,rfl,a8.o,bx.o⟩
  case round=>
   obtain⟨k,ai,rfl,aE,aN⟩:=hrel;clear a8 bx a0 ap aj c7 q5;obtain⟨a8,bx⟩:=aM aE aN;obtain⟨a0,ap,aj⟩:=aN.two;by_cases aw:k<2
   .obtain⟨b,o,z,cs,rfl,O,a4,bS,bi,Z⟩:=(bB.on (Fr.ext aE)).gZ dg aw;clear aE aN
    match cs,bi with
    | [cu,cr,br,aa],_=>
    exact Gi
   .obtain rfl:k=2:=ab;clear aE aN;go_wp2;go_ret;exact⟨rfl,a8.o⟩
 ):p:=h
end Cl
open Cl in
theorem wY(N:LQ)(hN:dE N)(d:Nat)(x:VE)(hx:x.src N d)(ao:∀(k:Nat) (y:VE),x.args[k]?=some y->su y):su x:=by
 intro op n s A m c w aQ;exact pz
theorem FP{N:LQ}{C:VE->Nat->Prop}(f:∀(d:Nat) (x:VE),x.src N d->(∀(k:Nat) (y:VE),x.args[k]?=some y->∃e,d=e+1/\C y e)->C x d):∀(d:Nat) (x:VE),x.src N d->C x d:=by
 intro d
 induction d with
 | zero=>exact λx hx=>f 0 x hx λk y a4=>by rw[qU hx] at a4;simp at a4
 | succ d ao=>exact λx hx=>f (d+1) x hx λk y a4=>⟨d,rfl,ao y (qT hx a4)⟩
theorem zf(N:LQ)(hN:dE N)(d:Nat)(x:VE)(hx:x.src N d):su x:=
 FP (C:=λx _=>su x) (λd x hx ao=>wY N hN d x hx λk y a4=>by obtain⟨_,_,h⟩:=ao k y a4;exact h) d x hx
def sr(x:VE)(d:Nat):Prop:=∀(op n:Int) (s:ByteArray) (A:LP) (m c:Nat) (w:World),(bf x).rep w (au w) [.int .i64 op,.int .i64 n,.string s,.slice A m c]->
 Calls prog 144 #[.agg #[.int .i64 op,.int .i64 n,.string s,.slice A m c]] w λe ac=>(∃h:Int,e=.returned (.int .i64 h)/\0<=h/\h<=2*d)/\Ext w ac
attribute [local go_sem ↓] gi gj
namespace Cm
theorem pA(h:p:=by
 have ay:m<=2:=by rw[<-hs.1,Lf];exact tO x
 have dw:m=x.args.length:=by rw[<-hs.1,Lf]
 obtain⟨dL,aR,bB,ct⟩:=iR dw hx hs ao;clear aQ ao hs hx dw;go_enter func144,ntmps144;go_wp2;generalize be:World.alloc _ _=W;have aE:=bb be;have aN:=aT be;clear be;obtain⟨a8,bx⟩:=aM aE aN;clear aE aN;go_loopw [3,4] (λbD bc wr=>∃(k:Nat) (h:Int),k<=m/\bc=.int .i64 k/\bD=.int .i64 h/\0<=h/\(h=0\/h+1<=2*d)/\Ext w wr/\an wr w.heap.size 56 #[.int .i64 x.aZ,.int .i64 x.numOf,.string x.bk,.slice A m c]) (λ_ bc _=>m - (intOf bc).toNat)
 case atStart=>exact⟨0,0,ab,rfl,rfl,ab,.inl rfl,a8.o,bx.o⟩
 case round=>
  obtain⟨k,h,ai,rfl,rfl,f,aH,aE,aN⟩:=hrel;clear a8 bx;obtain⟨a8,bx⟩:=aM aE aN;obtain⟨a0,ap,aj⟩:=aN.two;by_cases aw:k<m
  .obtain⟨b,o,z,cs,rfl,O,a4,bS,bi,Z⟩:=(bB.on (Fr.ext aE)).gZ dg aw;clear aE aN
   match cs,bi with
   | [cu,cr,br,aa],_=>
   have c0:=Z 0 cu rfl;have c1:=Z 1 cr rfl;have c2:=Z 2 br rfl;have c3:=Z 3 aa rfl;simp only[Ll] at c0;have aX:b<wr.heap.size:=O;clear Z O;obtain⟨B,bG,fk,e,cC,b4⟩:=aW.1 bS;simp only[List.cons.injEq,and_true] at e;obtain⟨rfl,rfl,rfl,rfl⟩:=e;obtain⟨e0,Q,hC⟩:=ct.o k z a4;obtain⟨bQ,bP,J⟩:=eG hC a4 bS;clear a4 bS b4 hC;go_wp2_with(fail);refine(bQ.o _ _ _ _ _ _ wr J.o).mono ?_;rintro e aV ⟨⟨aD,rfl,g,i⟩,bU⟩;have a7:=ad (a8.trans bU);have b8:=ad (bx.aj bU);have d0:=(bU.cell (j:=o+k*4) aX (λh=>h)).trans c0;have a9:b<aV.heap.size:=Lc aX bU.size;have ci:k<=1:=ab;clear bU a0 ap aj c0 c1 c2 c3 aX;obtain⟨a0,ap,aj⟩:=b8.two;go_wp2_with(fail);refine(rX x.aZ x.numOf z.aZ x.bk b o m c k aV ci aw a9 d0).mono ?_;rintro e b3 ⟨rfl,b0⟩;have bX:=ad (a7.trans b0);have b6:=ad (b8.aj b0);clear b0 a0 ap aj d0 a9;cases dx x.aZ z.aZ (k == 1)
   .go_wp2;go_roundw
    case rel=>exact⟨k+1,max h aD,ab,by go_num,rfl,ab,.inr ab,bX.o,b6.o⟩
    case measure=>exact az
   .go_wp2;go_roundw
    case rel=>exact⟨k+1,max h (aD+1),ab,by go_num,rfl,ab,.inr ab,bX.o,b6.o⟩
    case measure=>exact az
  .obtain rfl:k=m:=ab;clear aE aN;have hf:decide ((k:Int)<(k:Int))=false:=by simp
   go_wp2_with(fail);refine(gk x.aZ wr).mono ?_;rintro e aV ⟨rfl,bU⟩;have a7:=ad (a8.trans bU);clear bU;by_cases cd:cU x.aZ=5
   .have O:h+1<=2*d:=by
     rcases aH with rfl|aH
     .have:0<d:=by
       rcases Nat.eq_zero_or_pos d with h0|h0
       .exfalso;subst h0;have ae:=aR.o;cases x<;>first|exact ae.elim|exact absurd cd (show ¬cU 1=5 by decide)|exact absurd cd (show ¬cU 2=5 by decide)
       .exact h0
      omega
     .exact aH
    rw[cd];go_wp2;go_ret;exact⟨⟨h+1,rfl,ab,O⟩,a7.o⟩
   .have q5:(cU x.aZ == 5)=false:=by simpa using cd
    go_wp2;go_ret;exact⟨⟨h,rfl,f,ab⟩,a7.o⟩
 ):p:=h
end Cm
open Cm in
theorem oh(N:LQ)(d:Nat)(hd:d<=1000)(x:VE)(hx:x.src N d)(ao:∀(k:Nat) (y:VE),x.args[k]?=some y->∃e,d=e+1/\sr y e):sr x d:=by
 intro op n s A m c w aQ;exact pz
theorem wh(N:LQ):∀(d:Nat),d<=1000->∀(x:VE),x.src N d->sr x d:=by
 intro d
 induction d with
 | zero=>exact λhd x hx=>oh N 0 hd x hx λk y a4=>by rw[qU hx] at a4;simp at a4
 | succ d ao=>exact λhd x hx=>oh N (d+1) hd x hx λk y a4=>⟨d,rfl,ao ab y (qT hx a4)⟩
theorem fu(x:VE)(hx:wE x)(op n:Int)(s:ByteArray)(A:LP)(m c:Nat)(w:World)(aQ:(bf x).rep w (au w) [.int .i64 op,.int .i64 n,.string s,.slice A m c]) :
  Calls prog 126 #[.agg #[.int .i64 op,.int .i64 n,.string s,.slice A m c]] w λe ac=>e=.returned (.bool true)/\Ext w ac:=by
 obtain⟨N,d,hN,hd,hs⟩:=hx;have aZ:=ad aQ;have b:=ad (zf N hN d x hs);have a:=ad (wh N d ab x hs);clear aQ hs hN;go_enter func126,ntmps126;go_wp2_with(fail);generalize be:World.alloc _ _=W;have aE:=bb be;have aN:=aT be;clear be;refine(b.o _ _ _ _ _ _ W (D.on aZ.o (Fr.ext aE))).mono ?_;rintro e aV ⟨rfl,bU⟩;have a7:=ad (aE.trans bU);obtain⟨a0,ap,aj⟩:=(aN.aj bU).two;clear aE aN bU;go_wp2_with(fail);refine(a.o _ _ _ _ _ _ aV (D.on aZ.o (Fr.ext a7.o))).mono ?_;rintro e b3 ⟨⟨h,rfl,h0,ae⟩,b0⟩;have bX:=ad (a7.trans b0);have q:decide (h<=24)=true:=by simp;omega
 clear b0 a0 ap aj;go_wp2;go_ret;exact⟨rfl,bX.o⟩
theorem r7(r:eN)(aQ:oI r)(s:ByteArray)(A:LP)(n c:Nat)(w:World)(h:(kJ r).rep w (au w) [.string s,.slice A n c]) :
  Calls prog 128 #[.agg #[.string s,.slice A n c]] w λe ac=>e=.returned (.bool true)/\Ext w ac:=by
 obtain⟨I,a5,aA,e,aI,hs⟩:=jB.1 h;simp only[List.cons.injEq,Value.string.injEq,Value.slice.injEq,and_true] at e;obtain⟨rfl,rfl,rfl,rfl⟩:=e;have H:=ad (show jH r.name=true from aQ.1);have U:r.name.size<=1000000:=by
  have:=er aQ.1;have aD:r.name.size=r.name.data.toList.length:=rfl;omega
 obtain⟨ch,bB⟩:=aM aQ.2 hs;clear h hs aQ;go_enter func128,ntmps128;go_wp2_with(fail);generalize be:World.alloc _ _=W;have aE:=bb be;have aN:=aT be;clear be;refine(g1 r.name W U).mono ?_;rintro e aV ⟨rfl,bU⟩;rw[H.o];have a7:=ad (aE.trans bU);have b8:=ad (aN.aj bU);obtain⟨a0,ap,aj⟩:=(aN.aj bU).two;clear aE aN bU
 cases ak:r.idx with
 | none=>
  have h0:=bB.1;rw[ak] at h0;obtain rfl:0=n:=h0;clear ak;go_wp2;go_ret
  exact⟨rfl,a7.o⟩
 | some x=>
  have aR:=ad (ch.o x ak);have h0:=bB.on (Fr.ext a7.o);rw[ak] at h0;obtain rfl:1=n:=h0.1;obtain⟨b,o,bs,Z,bu,E,rfl,O,ax,c0,c1,c2,c3⟩:=Sl.DP h0 (dg x);obtain⟨B,bG,fk,e,cC,b4⟩:=aW.1 ax;simp only[List.cons.injEq,and_true] at e;obtain⟨rfl,rfl,rfl,rfl⟩:=e;have aX:b<aV.heap.size:=O;have ag:=ad ax;clear ak h0 b4 ax O ch bB;go_wp2_with(fail);refine(fu x aR.o _ _ _ _ _ _ aV ag.o).mono ?_;rintro e b3 ⟨rfl,b0⟩;have bX:=ad (a7.trans b0);clear b0;go_wp2;go_ret;exact⟨rfl,bX.o⟩
end
theorem k4{eo en:Int}{es:ByteArray}{EA:LP}{em ec:Nat}(h:(oH none).rep w P [.int .i64 eo,.int .i64 en,.string es,.slice EA em ec]):eo=0/\en=0/\es=⟨#[]⟩/\em=0:=by
 obtain⟨A,c,e⟩:=fa.1 h;simp only[List.cons.injEq,Value.int.injEq,Value.string.injEq,Value.slice.injEq,and_true,true_and] at e;exact⟨e.1,e.2.1,e.2.2.1,e.2.2.2.2.1⟩
theorem hb{A:LP}{n c:Nat}(h:(pY none).rep w P [.string s,.slice A n c]):s=⟨#[]⟩/\n=0:=by
 unfold pY fQ at h;rw[bB,ch] at h;obtain⟨y,e,h⟩:=h;injection e with e1 e2;injection e1 with e1;subst e2;obtain⟨I,a5,aA,br,e,_,hs,aD⟩:=aF.1 h;injection e with e2 e3;injection e2 with _ e2 _;exact⟨e1,by rw[e2];exact hs.1.symm⟩
theorem Dh(h:(eD (.mx r)).rep w P cs):∃s A n c EA ec,cs=[.bool true,.string s,.slice A n c,.int .i64 0,.int .i64 0,.string ⟨#[]⟩,.slice EA 0 ec]/\(kJ r).rep w P [.string s,.slice A n c]:=by
 exact Gu
namespace Cn
theorem vL(h:p:=by
 obtain⟨A,n,c,bF,rfl,_,hs,ba⟩:=aF.1 hx;rw[aK] at ba;subst ba;obtain rfl:n=0:=hs.1.symm;exact zH
 ):p:=h
end Cn
open Cn in
theorem Df{e:VE}(h:(eD (.ex e)).rep w P cs):∃cn rc op n s A m c,cs=[.bool false,.string ⟨#[]⟩,.slice cn 0 rc,.int .i64 op,.int .i64 n,.string s,.slice A m c]/\(bf e).rep w P [.int .i64 op,.int .i64 n,.string s,.slice A m c]:=by
 exact vK
theorem h8(h:bq s.data.toList=true):s.size<=1000000:=by
 have:=er h;have aD:s.size=s.data.toList.length:=rfl;omega
def F7(b:ak):Prop:=∀(d deep:Nat) (A:LP) (n c:Nat) (w:World),gu d b->b.num<=1000000->deep+d<=23->Sl w (au w) A n (cY b)->
 Calls prog 109 #[.slice A n c,.int .i64 deep] w λe ac=>e=.returned (.bool true)/\Ext w ac
namespace Co
theorem vF(h:p:=by
 have P:=ad E;clear Z dJ E bk bi O;go_upto_region 7 with(fail);generalize be:World.alloc wr _=W;have l:=bb be;have aN:=aT be;have z:=ad P.o;have M:=ad (a8.trans l);obtain⟨q,x⟩:=aM l aN;obtain⟨a0,ap,aj⟩:=aN.two;clear be l aN d0 d1 d2 d3 d4 d5 d6 d7 d8 d9 d10 P aX
 cases s with
 | set v nm e=>
  obtain⟨R,hex⟩:=af.o;have H:=ad (show jH nm=true from R);have U:=h8 (show bq nm.data.toList=true from R);have aW:=ad hex;obtain⟨rfl,rfl⟩:=hb z.ref;obtain rfl:0=n1:=z.args.1;obtain rfl:0=n2:=z.th.1;obtain rfl:0=n3:=z.el.1;clear R hex;simp only[ax.kind,ax.name] at *;cases v
  all_goals as_aux_lemma=>
   simp only[LJ,if_false,if_true] at *;go_wp2_with(fail);refine(g1 nm _ U).mono ?_;rintro e aB ⟨rfl,he⟩;have bs:=ad (M.trans he);have m:=ad (q.trans he);have G:=ad (x.aj he);clear he a0 ap aj M q x;obtain⟨a0,ap,aj⟩:=G.two;rw[H.o];go_wp2_with(fail);refine(fu e aW.o _ _ _ _ _ _ _ (D.on z.expr (Fr.ext m.o))).mono ?_;rintro e aD ⟨rfl,he⟩;have a7:=ad (bs.trans he);have y:=ad (m.trans he);have b8:=ad (G.aj he);clear he a0 ap aj bs m G;obtain⟨a0,ap,aj⟩:=b8.two;go_wp2_with(fail);refine(gG _ _ _).mono ?_;rintro e aP ⟨rfl,he⟩;have bX:=ad (a7.trans he);have J:=ad (y.trans he);have b6:=ad (b8.aj he);clear he a0 ap aj a7 y b8;obtain⟨a0,ap,aj⟩:=b6.two;go_wp2;refine wp_loop_rounds 1 ?_;rw[rounds_succ]
   exact xB
 | call g nm aI=>
  obtain⟨R,aA,hlen⟩:=af.o;have H:=ad (show jH nm=true from R);have U:=h8 (show bq nm.data.toList=true from R);obtain⟨rfl,rfl,rfl,rfl⟩:=k4 z.expr;obtain⟨rfl,rfl⟩:=hb z.ref;have ao:=ad aA;have cP:n1<=1000:=by have:=z.args.1;rw[Lf] at this;simp only[ax.args] at this;omega
  obtain rfl:0=n2:=z.th.1;obtain rfl:0=n3:=z.el.1;clear R aA hlen;simp only[ax.kind,ax.name] at *;cases g
  all_goals as_aux_lemma=>
   simp only[LJ,if_false,if_true] at *;go_wp2_with(fail);refine(g1 nm _ U).mono ?_;rintro e aB ⟨rfl,he⟩;have bs:=ad (M.trans he);have m:=ad (q.trans he);have G:=ad (x.aj he);clear he a0 ap aj M q x;obtain⟨a0,ap,aj⟩:=G.two;rw[H.o];go_wp2_with(fail);refine(iY _ _ _).mono ?_;rintro e aD ⟨rfl,he⟩;have a7:=ad (bs.trans he);have y:=ad (m.trans he);have b8:=ad (G.aj he);clear he a0 ap aj bs m G;obtain⟨a0,ap,aj⟩:=b8.two;go_wp2_with(fail);refine(gG _ _ _).mono ?_;rintro e aP ⟨rfl,he⟩;have bX:=ad (a7.trans he);have J:=ad (y.trans he);have b6:=ad (b8.aj he);clear he a0 ap aj a7 y b8;obtain⟨a0,ap,aj⟩:=b6.two;go_wp2;have aV:=ad (show Sl wr (au wr) cy n1 (aI.map eD) from z.args);go_loopw [12] (λbt bh=>∃j:Nat,j<=n1/\bt=.int .i64 j/\Ext w bh/\Ext wr bh/\an bh wr.heap.size 188 _) (λbt _=>n1 - (intOf bt).toNat)
   case atStart=>exact⟨0,ab,rfl,bX.o,J.o,b6.o⟩
   case round=>
    obtain⟨j,bd,rfl,aE,ag,aN⟩:=hrel;clear bX J b6 a0 ap aj;obtain⟨bX,J,b6⟩:=eG aE ag aN;obtain⟨a0,ap,aj⟩:=aN.two;by_cases Y:j<n1
    .obtain⟨cN,c4,a,cs,rfl,aq,E,aC,aF,f⟩:=(aV.on (Fr.ext ag)).gZ sS Y;have ah:cN<wr.heap.size:=aq;have aQ:=ad (ao.o a (Le E))
     cases a with
     | mx r=>
      obtain⟨a2,a9,bp,ac,bm,bo,rfl,aL⟩:=Dh aC;have f0:=f 0 _ rfl;have f1:=f 1 _ rfl;have f2:=f 2 _ rfl;have f3:=f 3 _ rfl;have f4:=f 4 _ rfl;have f5:=f 5 _ rfl;have f6:=f 6 _ rfl;simp only[Ll] at f0;have I:=ad aL;clear f aC aL E aF aq aE ag aN;go_upto_region 17 with(fail);generalize hV:World.alloc _ _=V;have L:=bb hV;have hC:=aT hV;have bw:=ad (bX.trans L);have ae:=ad (J.trans L);have T:=ad (b6.aj L);have aH:=ad (D.on I.o (Fr.ext L));have bQ:=ad hC;clear L hC hV a0 ap aj bX J b6 I f0 f1 f2 f3 f4 f5 f6 ah;obtain⟨a0,ap,aj⟩:=bQ.two;go_wp2_with(fail);refine(r7 r aQ.o _ _ _ _ _ aH.o).mono ?_;rintro a5 a4 ⟨rfl,Q⟩;have F:=ad (bw.trans Q);have aO:=ad (ae.trans Q);have av:=ad (T.aj Q);have bQ:=ad (bQ.aj Q);clear a0 ap aj bw ae T;obtain⟨a0,ap,aj⟩:=bQ.two;go_wp2_with(fail);refine(iY _ _ _).mono ?_
      exact Gq
     | ex e=>
      obtain⟨bn,bf,N,ba,a2,a9,am,ac,rfl,aL⟩:=Df aC;have f0:=f 0 _ rfl;have f1:=f 1 _ rfl;have f2:=f 2 _ rfl;have f3:=f 3 _ rfl;have f4:=f 4 _ rfl;have f5:=f 5 _ rfl;have f6:=f 6 _ rfl;simp only[Ll] at f0;have I:=ad aL;clear f aC aL E aF aq aE ag aN;go_upto_region 17 with(fail);generalize hV:World.alloc _ _=V;have L:=bb hV;have hC:=aT hV;have bw:=ad (bX.trans L);have ae:=ad (J.trans L);have T:=ad (b6.aj L);have aH:=ad (D.on I.o (Fr.ext L));have bQ:=ad hC;clear L hC hV a0 ap aj bX J b6 I f0 f1 f2 f3 f4 f5 f6 ah;obtain⟨a0,ap,aj⟩:=bQ.two;go_wp2_with(fail);refine(gG _ _ _).mono ?_;rintro a5 a4 ⟨rfl,Q⟩;have F:=ad (bw.trans Q);have aO:=ad (ae.trans Q);have av:=ad (T.aj Q);have bQ:=ad (bQ.aj Q);clear a0 ap aj bw ae T;obtain⟨a0,ap,aj⟩:=bQ.two;go_wp2_with(fail);refine(fu e aQ.o _ _ _ _ _ _ _ (D.on aH.o (Fr.ext Q))).mono ?_;exact Gq
    .obtain rfl:j=n1:=ab;clear aE ag aN
     exact xB
 | lock u r=>
  obtain⟨rfl,rfl,rfl,rfl⟩:=k4 z.expr;obtain rfl:0=n1:=z.args.1;obtain rfl:0=n2:=z.th.1;obtain rfl:0=n3:=z.el.1;have aZ:=ad (show oI r from af.o);simp only[ax.kind,ax.name] at *;cases u
  all_goals as_aux_lemma=>
   simp only[LJ,if_false,if_true] at *;go_wp2_with(fail);refine(iY _ _ _).mono ?_;rintro e aB ⟨rfl,he⟩;have bs:=ad (M.trans he);have m:=ad (q.trans he);have G:=ad (x.aj he);clear he a0 ap aj M q x;obtain⟨a0,ap,aj⟩:=G.two;go_wp2_with(fail);refine(r7 r aZ.o _ _ _ _ _ (D.on z.ref (Fr.ext m.o))).mono ?_
   exact Gs
 | ite e th el=>
  obtain⟨hex,cd,ci,aS,ce⟩:=af.o;obtain⟨aW,aa,aK⟩:=eG hex aS ce;have S:=ad (show deep+1+cd<=23 by have:=cJ.o;omega);obtain⟨rfl,rfl⟩:=hb z.ref;obtain rfl:0=n1:=z.args.1;clear hex aS ce ci;simp only[ax.kind,ax.name] at *;as_aux_lemma=>
   go_wp2_with(fail);refine(fu e aW.o _ _ _ _ _ _ _ (D.on z.expr (Fr.ext q.o))).mono ?_;rintro e aB ⟨rfl,he⟩;have bs:=ad (M.trans he);have m:=ad (q.trans he);have G:=ad (x.aj he);clear he a0 ap aj M q x;obtain⟨a0,ap,aj⟩:=G.two;go_wp2_with(fail);refine(gG _ _ _).mono ?_;rintro e aD ⟨rfl,he⟩;have a7:=ad (bs.trans he);have y:=ad (m.trans he);have b8:=ad (G.aj he);clear he a0 ap aj bs m G;obtain⟨a0,ap,aj⟩:=b8.two;go_wp2;refine wp_loop_rounds 1 ?_;rw[rounds_succ];go_wp2_with(fail);refine((show F7 th from aJ.1) cd (deep+1) _ _ _ _ aa.o (Ls (Nat.le_add_right _ _) i.o) S.o (z.th.on (Fr.ext y.o))).mono ?_;rintro e aP ⟨rfl,he⟩;have bX:=ad (a7.trans he);have J:=ad (y.trans he);have b6:=ad (b8.aj he);clear he a0 ap aj a7 y b8;obtain⟨a0,ap,aj⟩:=b6.two;by_cases aU:n3=0
   .subst aU;exact xB
   .have cw:decide ((n3:Int) > 0)=true:=by simp;omega
    go_wp2_with(fail);refine((show F7 el from aJ.2) cd (deep+1) _ _ _ _ aK.o (Ls (Nat.le_add_left _ _) i.o) S.o (z.el.on (Fr.ext J.o))).mono ?_;rintro e bg ⟨rfl,he⟩;have bw:=ad (bX.trans he);have ae:=ad (J.trans he);have T:=ad (b6.aj he);clear he a0 ap aj bX J b6;obtain⟨a0,ap,aj⟩:=T.two;go_wp2;go_roundw
    case rel=>exact⟨k+1,ab,by go_num,bw.o⟩
    case measure=>exact az
 | gp e th=>
  obtain⟨hex,cd,ci,aS⟩:=af.o;obtain⟨aW,aa⟩:=aM hex aS;have S:=ad (show deep+1+cd<=23 by have:=cJ.o;omega);obtain⟨rfl,rfl⟩:=hb z.ref;obtain rfl:0=n1:=z.args.1;obtain rfl:0=n3:=z.el.1;clear hex aS ci;simp only[ax.kind,ax.name] at *;as_aux_lemma=>
   go_wp2_with(fail);refine(fu e aW.o _ _ _ _ _ _ _ (D.on z.expr (Fr.ext q.o))).mono ?_;rintro e aB ⟨rfl,he⟩;have bs:=ad (M.trans he);have m:=ad (q.trans he);have G:=ad (x.aj he);clear he a0 ap aj M q x;obtain⟨a0,ap,aj⟩:=G.two;go_wp2_with(fail);refine(gG _ _ _).mono ?_;rintro e aD ⟨rfl,he⟩;have a7:=ad (bs.trans he);have y:=ad (m.trans he);have b8:=ad (G.aj he);clear he a0 ap aj bs m G;obtain⟨a0,ap,aj⟩:=b8.two;go_wp2;refine wp_loop_rounds 1 ?_;rw[rounds_succ];go_wp2_with(fail);refine((show F7 th from aJ.1) cd (deep+1) _ _ _ _ aa.o (Ls (Nat.le_add_right _ _) i.o) S.o (z.th.on (Fr.ext y.o))).mono ?_;rintro e aP ⟨rfl,he⟩;have bX:=ad (a7.trans he);have J:=ad (y.trans he);have b6:=ad (b8.aj he);clear he a0 ap aj a7 y b8;obtain⟨a0,ap,aj⟩:=b6.two
   exact xB
 | ret=>
  obtain⟨rfl,rfl,rfl,rfl⟩:=k4 z.expr;obtain⟨rfl,rfl⟩:=hb z.ref;obtain rfl:0=n1:=z.args.1;obtain rfl:0=n2:=z.th.1;obtain rfl:0=n3:=z.el.1;simp only[ax.kind,ax.name] at *;as_aux_lemma=>
   go_wp2_with(fail);refine(iY _ _ _).mono ?_;rintro e aB ⟨rfl,he⟩;have bs:=ad (M.trans he);have m:=ad (q.trans he);have G:=ad (x.aj he);clear he a0 ap aj M q x;obtain⟨a0,ap,aj⟩:=G.two;go_wp2_with(fail);refine(gG _ _ _).mono ?_;exact Gs
 ):p:=h
end Co
open Co in
theorem te(b:ak)(X:∀s∈b.list,F7 s.th/\F7 s.el):F7 b:=by
 intro d deep A n c w cc K ay hs;have hl:b.list.length=n:=by rw[<-hs.1,cC,Lf]
 have hn:n<=1000000:=by have:=eR b;omega
 have a6:deep<=23:=ab;have a3:decide ((deep:Int)>=24)=false:=by simp;omega
 rw[cC] at hs;obtain⟨bB,al⟩:=aM hs X;have aR:=ad (gI b d cc);have aY:=ad (λs (hs:s∈b.list)=>Ls (Nat.le_of_lt (iB b s hs)) K);have cJ:=ad ay;clear hs X cc K hl ay;go_enter func109,ntmps109;go_wp2;go_loopw [5] (λbc wr=>∃k:Nat,k<=n/\bc=.int .i64 k/\Ext w wr) (λbc _=>n - (intOf bc).toNat)
 case atStart=>exact⟨0,ab,rfl,LL⟩
 case round=>
  obtain⟨k,ai,rfl,aE⟩:=hrel;have a8:=ad aE;clear aE a3;by_cases aw:k<n
  .obtain⟨dc,o,s,cs,rfl,O,bk,dJ,bi,Z⟩:=(bB.on (Fr.ext a8.o)).gZ nB aw;have aX:dc<wr.heap.size:=O;have af:=ad (aR.o s (Le bk));have aJ:=ad (al.o s (Le bk));have i:=ad (aY.o s (Le bk));obtain⟨eo,en,es,EA,em,ec,rs,cn,cU,rc,cy,n1,c1,A2,n2,c2,ck,n3,c3,rfl,E⟩:=lC dJ;exact vE
  .obtain rfl:k=n:=ab;go_wp2;go_ret;exact⟨rfl,a8.o⟩
theorem uA(b:ak):F7 b:=ak.C5 te b
end Go.Proofs.YtflecliffjbleaaGreat

/- Part 13 of the proof. No condition of its own. -/
import Derived.Test.YtbkhhfajcgkpgaaGreatQ12
namespace Go.Proofs.YtbkhhfajcgkpgaaGreat
open Go.RowKit Go.Proofs.Tryz
set_option maxRecDepth 1000000
set_option maxHeartbeats 25600000
set_option linter.unusedVariables false
variable{s:ByteArray}{cs:List Value}{k:Nat}{P:Nat→Prop}{p:Prop}{α:Type}{w:World}{r:eF}
theorem al.Cn{C:al→Prop}(f:∀b:al,(∀s∈b.list,C s.th∧C s.el)→C b):∀b:al,C b:=by
 have c:C .nil:=f .nil fun s hs=>by simp[al.list] at hs
 have fin:∀b:al,(∀s∈b.list,C s.th∧C s.el)→C b∧∀s∈b.list,C s.th∧C s.el:=fun b h=>⟨f b h,h⟩
 suffices h:∀b:al,C b∧∀s∈b.list,C s.th∧C s.el from fun b=>(h b).1
 intro b
 induction b with
 | nil=>exact fin _ fun s hs=>by simp[al.list] at hs
 | set v n e rest ao=>
  exact wM
 | call g n aS rest ao=>
  exact wM
 | lock u r rest ao=>
  exact wM
 | ite e th el rest j o ao=>
  refine fin _ fun s hs=>?_;rcases J6.1 hs with rfl|hs
  ·exact⟨j.1,o.1⟩
  ·exact ao.2 s hs
 | gb e th rest j ao=>
  refine fin _ fun s hs=>?_;rcases J6.1 hs with rfl|hs
  ·exact⟨j.1,c⟩
  ·exact ao.2 s hs
 | ret rest ao=>
  exact wM
theorem ih:∀(b:al) (s:ax),s∈b.list→s.th.num+s.el.num<b.num
 | .nil,s,h=>by simp[al.list] at h
 | .set v n e rest,s,h=>by
  rcases J6.1 h with rfl|h
  ·simp[ax.th,ax.el,al.num]
  ·have:=ih rest s h;simp only[al.num];omega
 | .call g n aS rest,s,h=>by
  rcases J6.1 h with rfl|h
  ·simp[ax.th,ax.el,al.num]
  ·have:=ih rest s h;simp only[al.num];omega
 | .lock u r rest,s,h=>by
  rcases J6.1 h with rfl|h
  ·simp[ax.th,ax.el,al.num]
  ·have:=ih rest s h;simp only[al.num];omega
 | .ite e th el rest,s,h=>by
  rcases J6.1 h with rfl|h
  ·simp only[ax.th,ax.el,al.num];omega
  ·have:=ih rest s h;simp only[al.num];omega
 | .gb e th rest,s,h=>by
  rcases J6.1 h with rfl|h
  ·simp only[ax.th,ax.el,al.num];omega
  ·have:=ih rest s h;simp only[al.num];omega
 | .ret rest,s,h=>by
  rcases J6.1 h with rfl|h
  ·simp[ax.th,ax.el,al.num]
  ·have:=ih rest s h;simp only[al.num];omega
def vF(e:VE):Prop:=∃N d,dx N∧d≤12∧e.src N d
def n7(r:eF):Prop:=bp r.name.data.toList=true∧∀e,r.idx=some e→vF e
def tJ:da→Prop
 | .mx r=>n7 r
 | .ex e=>vF e
def gg:Nat→al→Prop
 | _,.nil=>True
 | d,.set _ n e rest=>bp n.data.toList=true∧vF e∧gg d rest
 | d,.call _ n aS rest=>(bp n.data.toList=true∧(∀a∈aS,tJ a)∧aS.length≤1000)∧gg d rest
 | d,.lock _ r rest=>n7 r∧gg d rest
 | 0,.ite ..=>False
 | 0,.gb ..=>False
 | d+1,.ite e th el rest=>vF e∧gg d th∧gg d el∧gg (d+1) rest
 | d+1,.gb e th rest=>vF e∧gg d th∧gg (d+1) rest
 | d,.ret rest=>gg d rest
def It(d:Nat):ax→Prop
 | .set _ n e=>bp n.data.toList=true∧vF e
 | .call _ n aS=>bp n.data.toList=true∧(∀a∈aS,tJ a)∧aS.length≤1000
 | .lock _ r=>n7 r
 | .ite e th el=>vF e∧∃k,d=k+1∧gg k th∧gg k el
 | .gb e th=>vF e∧∃k,d=k+1∧gg k th
 | .ret=>True
theorem gB:∀(b:al) (d:Nat),gg d b→∀s∈b.list,It d s
 | .nil,d,_,s,hs=>by simp[al.list] at hs
 | .set v n e rest,d,h,s,hs=>by
  have q:bp n.data.toList=true∧vF e∧gg d rest:=by cases d<;>exact h
  rcases J6.1 hs with rfl|hs
  ·exact⟨q.1,q.2.1⟩
  ·exact gB rest d q.2.2 s hs
 | .call g n aS rest,d,h,s,hs=>by
  have q:(bp n.data.toList=true∧(∀a∈aS,tJ a)∧aS.length≤1000)∧gg d rest:=by cases d<;>exact h
  rcases J6.1 hs with rfl|hs
  ·exact q.1
  ·exact gB rest d q.2 s hs
 | .lock u r rest,d,h,s,hs=>by
  have q:n7 r∧gg d rest:=by cases d<;>exact h
  rcases J6.1 hs with rfl|hs
  ·exact q.1
  ·exact gB rest d q.2 s hs
 | .ite e th el rest,0,h,s,hs=>h.elim
 | .gb e th rest,0,h,s,hs=>h.elim
 | .ite e th el rest,d+1,h,s,hs=>by
  rcases J6.1 hs with rfl|hs
  ·exact⟨h.1,d,rfl,h.2.1,h.2.2.1⟩
  ·exact gB rest (d+1) h.2.2.2 s hs
 | .gb e th rest,d+1,h,s,hs=>by
  rcases J6.1 hs with rfl|hs
  ·exact⟨h.1,d,rfl,h.2.1⟩
  ·exact gB rest (d+1) h.2.2 s hs
 | .ret rest,d,h,s,hs=>by
  have q:gg d rest:=by cases d<;>exact h
  rcases J6.1 hs with rfl|hs
  ·trivial
  ·exact gB rest d q s hs
theorem n7.src(h:n7 r):Dt r:=fun e he=>by
 obtain⟨N,d,_,_,hs⟩:=h.2 e he;exact⟨N,d,hs⟩
theorem tJ.src{a:da}(h:tJ a):ES a:=by
 cases a with
 | mx r=>exact n7.src h
 | ex e=>
  obtain⟨N,d,_,_,hs⟩:=h;exact⟨N,d,hs⟩
theorem vF.src{e:VE}(h:vF e):∃N d,e.src N d:=by
 obtain⟨N,d,_,_,hs⟩:=h;exact⟨N,d,hs⟩
theorem iZ:∀(b:al) (d:Nat),gg d b→nc b
 | .nil,_,_=>trivial
 | .set v n e rest,d,h=>by
  have q:bp n.data.toList=true∧vF e∧gg d rest:=by cases d<;>exact h
  exact⟨q.2.1.src,iZ rest d q.2.2⟩
 | .call g n aS rest,d,h=>by
  have q:(bp n.data.toList=true∧(∀a∈aS,tJ a)∧aS.length≤1000)∧gg d rest:=by cases d<;>exact h
  exact⟨⟨fun a aV=>(q.1.2.1 a aV).src,q.1.2.2⟩,iZ rest d q.2⟩
 | .lock u r rest,d,h=>by
  have q:n7 r∧gg d rest:=by cases d<;>exact h
  exact⟨q.1.src,iZ rest d q.2⟩
 | .ite e th el rest,0,h=>h.elim
 | .gb e th rest,0,h=>h.elim
 | .ite e th el rest,d+1,h=>⟨h.1.src,iZ th d h.2.1,iZ el d h.2.2.1,iZ rest (d+1) h.2.2.2⟩
 | .gb e th rest,d+1,h=>⟨h.1.src,iZ th d h.2.1,iZ rest (d+1) h.2.2⟩
 | .ret rest,d,h=>by
  have q:gg d rest:=by cases d<;>exact h
  exact iZ rest d q
theorem DH{G:Env}(hG:nt G){V:Ks}(hV:dx V)(h:rH G V r):n7 r:=by
 rcases h with⟨m,hm,hn,ae,aC⟩|⟨hp,al⟩
 ·refine⟨by rw[←hn];exact hG.ae m hm,fun e he=>?_⟩;by_cases hs:0<m.size
  ·obtain⟨x,hx,av⟩:=ae hs;rw[hx] at he;injection he with he;subst he;exact⟨V,2,hV,ab,av⟩
  ·rw[aC hs] at he;cases he
 ·refine⟨hG.params _ hp,fun e he=>?_⟩;rw[al] at he;cases he
theorem xw{G:Env}(hG:nt G){V:Ks}(hV:dx V):∀(ps:List (ByteArray×Bool)) (aS:List da),iz G V ps aS→(∀a∈aS,tJ a)∧aS.length=ps.length
 | [],[],_=>⟨fun a h=>by simp at h,rfl⟩
 | p::ps,a::aS,h=>by
  obtain⟨j,o⟩:=xw hG hV ps aS h.2;refine⟨fun x hx=>?_,by simp[o]⟩;rcases J6.1 hx with rfl|hx
  ·cases x with
   | mx r=>exact DH hG hV h.1.2
   | ex e=>exact⟨V,2,hV,ab,h.1.2⟩
  ·exact j x hx
 | [],_::_,h=>h.elim
 | _::_,[],h=>h.elim
theorem j6{G:Env}(hG:nt G):∀(b:al) (d:Nat) (V T:Ks),dx V→eN G d V T b→gg d b
 | .nil,d,V,T,hV,h=>by cases d<;>trivial
 | .set true n e rest,d,V,T,hV,h=>by
  have q:bp n.data.toList=true∧n∉T∧e.src V 2∧eN G d (V++[n]) (T++[n]) rest:=by cases d<;>exact h
  have ao:=j6 hG rest d _ _ (jP hV q.1) q.2.2.2;have r:bp n.data.toList=true∧vF e∧gg d rest:=⟨q.1,⟨V,2,hV,ab,q.2.2.1⟩,ao⟩
  cases d<;>exact r
 | .set false n e rest,d,V,T,hV,h=>by
  have q:n∈V∧e.src V 2∧eN G d V T rest:=by cases d<;>exact h
  have ao:=j6 hG rest d _ _ hV q.2.2;have r:bp n.data.toList=true∧vF e∧gg d rest:=⟨hV n q.1,⟨V,2,hV,ab,q.2.1⟩,ao⟩
  cases d<;>exact r
 | .call g n aS rest,d,V,T,hV,h=>by
  have q:(∃ps,(n,ps)∈G.funcs∧iz G V ps aS)∧eN G d V T rest:=by cases d<;>exact h
  have ao:=j6 hG rest d _ _ hV q.2;obtain⟨ps,ch,az⟩:=q.1;obtain⟨z,y⟩:=xw hG hV ps aS az;have aD:=hG.funcs _ ch;have hle:aS.length≤1000:=by have:=aD.2;simp only[] at this;omega
  have r:(bp n.data.toList=true∧(∀a∈aS,tJ a)∧aS.length≤1000)∧gg d rest:=⟨⟨aD.1,z,hle⟩,ao⟩
  cases d<;>exact r
 | .lock u r rest,d,V,T,hV,h=>by
  have q:rH G V r∧eN G d V T rest:=by cases d<;>exact h
  have ao:=j6 hG rest d _ _ hV q.2;have r:n7 r∧gg d rest:=⟨DH hG hV q.1,ao⟩
  cases d<;>exact r
 | .ite e th el rest,0,V,T,hV,h=>h.elim
 | .gb e th rest,0,V,T,hV,h=>h.elim
 | .ite e th el rest,d+1,V,T,hV,h=>⟨⟨V,2,hV,ab,h.1⟩,j6 hG th d V T hV h.2.1,j6 hG el d V T hV h.2.2.1,j6 hG rest (d+1) V T hV h.2.2.2⟩
 | .gb e th rest,d+1,V,T,hV,h=>⟨⟨V,2,hV,ab,h.1⟩,j6 hG th d V T hV h.2.1,j6 hG rest (d+1) V T hV h.2.2⟩
 | .ret rest,d,V,T,hV,h=>by
  have q:eN G d V T rest:=by cases d<;>exact h
  have ao:=j6 hG rest d _ _ hV q;cases d<;>exact ao
def ho(g:ByteArray×Int):List UInt8:=aR (ha g)
def j4(m:bA):List UInt8:=aR (hb m)
def j3(f:az):List UInt8:=aR (g9 f)
def gT(l:List (ByteArray×Bool)):List UInt8:=aR (dN (l.map gr))
theorem CM(g:ByteArray×Int):ho g=[118,97,114,32]++(g.1.data.toList++((if g.2=0 then [] else [32,61,32]++aR (hf g.2))++[59,10])):=by
 unfold ho ha;split
 ·simp[aR,Atom.bytes,kw]
 ·simp only[aX,aY,J5];simp[aR,Atom.bytes,kw]
theorem CY(m:bA):j4 m=(if m.re then [114] else [])++([109,117,116,101,120,32]++(m.name.data.toList++((if 0<m.size then [91]++(aR (hf m.size)++[93]) else [])++[59,10]))):=by
 unfold j4 hb;by_cases h:0<m.size
 ·cases m.re<;>simp[h,aR,Atom.bytes,kw,fy]
 ·cases m.re<;>simp[h,aR,Atom.bytes,kw,fy]
theorem p1{l:List (ByteArray×Bool)}{q:ByteArray×Bool}(h:l[k]?=some q):gT (l.take (k+1))=gT (l.take k)++((if 0<k then [44,32] else [])++((if q.2 then [109,117,116,101,120,32] else [])++q.1.data.toList)):=by
 have aj:k<l.length:=(List.getElem?_eq_some_iff.1 h).1;have bm:aR (gr q)=(if q.2 then [109,117,116,101,120,32] else [])++q.1.data.toList:=by
  unfold gr;split<;>simp[aR,Atom.bytes,kw,fy]
 unfold gT;rw[List.take_add_one,h,JX];show aR (dN (List.map gr (List.take k l)++[gr q]))=_
 rw[lM];by_cases h0:0<k
 ·rw[if_neg (by intro e;have:=congrArg List.length e;simp only[JU,List.length_take,J9] at this;omega),if_pos h0,aY,aX,aX,bm];simp[Atom.bytes]
 ·obtain rfl:k=0:=ab;simp[dN,aR,←bm]
theorem CC(f:az):j3 f=[102,117,110,99,32]++(f.name.data.toList++([40]++(gT f.params++([41,32,123,10]++(cq 1 f.body++[125,10]))))):=by
 unfold j3 g9 gT cq;simp only[aX,aY];simp[aR,Atom.bytes,kw]
theorem lH(f:α→List Atom)(l:List α):aR (l.flatMap f)=(l.map fun x=>aR (f x)).flatten:=by
 induction l with
 | nil=>rfl
 | cons a l ao=>rw[Ka,aY,ao];simp
def eW{α:Type}(f:α→List UInt8)(l:List α):List UInt8:=(l.map f).flatten
theorem mQ{f:α→List UInt8}{l:List α}{x:α}(h:l[k]?=some x):eW f (l.take (k+1))=eW f (l.take k)++f x:=by
 unfold eW;rw[List.take_add_one,h,JX,List.flatten_append];simp
theorem kH(f:α→List UInt8)(l:List α)(k:Nat):(eW f (l.take k)).length≤(eW f l).length:=by
 conv=>rhs;rw[←List.take_append_drop k l]
 unfold eW;rw[JX,List.flatten_append,JS];omega
theorem ry(p:bB):aR (fk p)=eW ho p.globals++(eW j4 p.ae++eW j3 p.funcs):=by
 unfold fk;rw[aY,aY,lH,lH,lH];rfl
section
theorem iP(A:Kr)(c:Nat)(w:World):Calls prog 128 #[.agg #[.int .i64 0,.int .i64 0,.string ⟨#[]⟩,.slice A 0 c]] w fun e ac=>e=.returned (.bool true)∧Ext w ac:=by
 go_enter func128,ntmps128;exact uM
theorem gz(A:Kr)(c:Nat)(w:World):Calls prog 130 #[.agg #[.string ⟨#[]⟩,.slice A 0 c]] w fun e ac=>e=.returned (.bool true)∧Ext w ac:=by
 go_enter func130,ntmps130;exact uM
def rM(x:VE):Prop:=∀(op n:Int) (s:ByteArray) (A:Kr) (m c:Nat) (w:World),(bb x).rep w (au w) [.int .i64 op,.int .i64 n,.string s,.slice A m c]→
 Calls prog 144 #[.agg #[.int .i64 op,.int .i64 n,.string s,.slice A m c]] w fun e ac=>e=.returned (.bool true)∧Ext w ac
namespace BB
theorem oO(h:p:=by
 obtain⟨bu,b9⟩:=aM hs ao;clear aU ao;go_enter func144,ntmps144;go_wp2_with(fail);generalize bg:World.alloc _ _=W;have aF:Ext w W:=bg▸Kn.alloc _;have aL:af W w.heap.size 57 #[.int .i64 x.aU,.int .i64 x.numOf,.string x.a1,.slice A m c]:=bg▸Ko;clear bg;refine(fY x.aU W).mono ?_;rintro e aN ⟨rfl,ar⟩;have a2:=ad (aF.trans ar);have bs:=ad (aL.ak ar);obtain⟨a0,ap,ak⟩:=(aL.ak ar).two;clear aF aL ar;have P:=hs.1;rw[JU] at P;clear hs;have key:∀(n0:Nat) (bQ:x.args.length=n0),True:=fun _ _=>trivial;clear key
 cases x with
 | num n=>
  have hn:0≤n∧n<4611686018427387904:=by cases d<;>exact hx
  obtain rfl:0=m:=P;simp only[VE.aU,VE.numOf,VE.a1] at *;have ca:decide (n≥0)=true:=by simp;omega
  rw[show cK 1=6 by decide];clear hx bu b9 hn;go_wp2;go_quiet (fail)
  go_wp2;refine wp_loop_rounds 1 ?_;rw[rounds_succ];go_wp2;go_ret
  exact⟨rfl,a2.drewN _⟩
 | gy s=>
  have hs:s∈N:=by cases d<;>exact hx
  obtain rfl:0=m:=P;simp only[VE.aU,VE.numOf,VE.a1] at *;have H:=ad (show jr s=true from hN s hs);have U:s.size≤1000000:=by
   have:=eh (hN s hs);have aC:s.size=s.data.toList.length:=rfl;omega
  rw[show cK 2=6 by decide];clear hx bu b9 hs;go_wp2;refine eE (fun _=>False) [(0,3),(1,0),(2,3),(3,3),(4,3),(5,0),(6,3),(7,3),(8,3),(9,3),(10,0),(11,3),(12,3),(13,3),(14,0),(15,3),(16,3),(17,3),(18,0),(19,3),(20,3),(21,3),(22,3),(23,0),(24,1),(25,3),(26,3),(27,3)] ?_;refine pf ?_;refine ph ?_
  iterate 2 refine pf ?_
  refine c9 rfl (by rfl) ?_
  try simp only[PU]
  refine hW rfl (by rfl) ?_
  try simp only[PU]
  refine c9 rfl (by rfl) ?_
  try simp only[PU]
  iterate 2 refine pf ?_
  refine c9 rfl (by rfl) ?_
  try simp only[PU]
  refine hW rfl (by rfl) ?_
  try simp only[PU]
  refine c9 rfl (by rfl) ?_
  try simp only[PU]
  iterate 2 refine pf ?_
  refine ph ?_
  iterate 3 refine pf ?_
  refine ph ?_
  iterate 4 refine pf ?_
  refine ph ?_;refine aK rfl (fun K hK=>?_);go_simp;refine(gP s _ U).mono ?_;rintro e aO ⟨rfl,bI⟩;rw[H.o];refine dW hK (bI) ?_;clear hK K
  iterate 3 refine pf ?_
  refine aA ?_;have J:=ad (a2.trans (Fr.aO bI));have bH:=(show af aN w.heap.size 57 _ from bs.o).ak (Fr.aO bI);obtain⟨a6,am,aI⟩:=bH.two;clear bI a0 ap ak bH;go_wp2;refine wp_loop_rounds 1 ?_;rw[rounds_succ];go_wp2;go_ret
  exact⟨rfl,J.o⟩
 | loc j=>exact(by cases d<;>exact hx:False).elim
 | ia j=>exact(by cases d<;>exact hx:False).elim
 | un op y=>
  obtain rfl:1=m:=P
  have aE:op=3∨op=4:=by cases d with
   | zero=>exact hx.elim
   | succ d=>exact hx.1
  simp only[VE.aU,VE.numOf,VE.a1] at *;rw[show cK op=5 by rcases aE with rfl|rfl<;>decide];clear hx aE;go_wp2;go_loopw [6] (fun ba wr=>∃k:Nat,k≤1∧ba=.int .i64 k∧Ext w wr∧af wr w.heap.size 57 #[.int .i64 op,.int .i64 0,.string ⟨#[]⟩,.slice A 1 c]) (fun ba _=>1 - (intOf ba).toNat)
  case atStart=>exact⟨0,ab,rfl,a2.o,bs.o⟩
  case round=>
   obtain⟨k,aj,rfl,aF,aL⟩:=hrel;clear a2 bs a0 ap ak;obtain⟨a2,bs⟩:=aM aF aL;obtain⟨a0,ap,ak⟩:=aL.two;by_cases aw:k<1
   ·obtain⟨b,o,z,cs,rfl,O,a4,bJ,a3,Z⟩:=(bu.on (Fr.ext aF)).gN cZ aw;clear aF aL
    match cs,a3 with
    | [cj,cr,bm,aa],_=>
    exact Fj
   ·obtain rfl:k=1:=ab;clear aF aL;go_wp2;go_ret
    exact⟨rfl,a2.o⟩
 | bin op y z=>
  obtain rfl:2=m:=P
  have aE:5≤op∧op≤17:=by cases d with
   | zero=>exact hx.elim
   | succ d=>exact hx.1
  obtain⟨g,bf,f,_⟩:=ue aE;simp only[VE.aU,VE.numOf,VE.a1] at *;rw[f];have dg:((g:Int) == 6)=false:=by simp;omega
  have q5:((g:Int) == 5)=false:=by simp;omega
  clear hx aE bf f;go_wp2;go_loopw [6] (fun ba wr=>∃k:Nat,k≤2∧ba=.int .i64 k∧Ext w wr∧af wr w.heap.size 57 #[.int .i64 op,.int .i64 0,.string ⟨#[]⟩,.slice A 2 c]) (fun ba _=>2 - (intOf ba).toNat)
  case atStart=>exact⟨0,ab,rfl,a2.o,bs.o⟩
  case round=>
   obtain⟨k,aj,rfl,aF,aL⟩:=hrel;clear a2 bs a0 ap ak dg q5;obtain⟨a2,bs⟩:=aM aF aL;obtain⟨a0,ap,ak⟩:=aL.two;by_cases aw:k<2
   ·obtain⟨b,o,z,cs,rfl,O,a4,bJ,a3,Z⟩:=(bu.on (Fr.ext aF)).gN cZ aw;clear aF aL
    match cs,a3 with
    | [cj,cr,bm,aa],_=>
    exact Fj
   ·obtain rfl:k=2:=ab;clear aF aL;go_wp2;go_ret;exact⟨rfl,a2.o⟩
 ):p:=h
end BB
open BB in
theorem vV(N:Ks)(hN:dx N)(d:Nat)(x:VE)(hx:x.src N d)(ao:∀(k:Nat) (y:VE),x.args[k]?=some y→rM y):rM x:=by
 intro op n s A m c w aU;exact oN
theorem ET{N:Ks}{C:VE→Nat→Prop}(f:∀(d:Nat) (x:VE),x.src N d→(∀(k:Nat) (y:VE),x.args[k]?=some y→∃e,d=e+1∧C y e)→C x d):∀(d:Nat) (x:VE),x.src N d→C x d:=by
 intro d
 induction d with
 | zero=>exact fun x hx=>f 0 x hx fun k y a4=>by rw[qh hx] at a4;simp at a4
 | succ d ao=>exact fun x hx=>f (d+1) x hx fun k y a4=>⟨d,rfl,ao y (qg hx a4)⟩
theorem yo(N:Ks)(hN:dx N)(d:Nat)(x:VE)(hx:x.src N d):rM x:=
 ET (C:=fun x _=>rM x) (fun d x hx ao=>vV N hN d x hx fun k y a4=>by obtain⟨_,_,h⟩:=ao k y a4;exact h) d x hx
def rK(x:VE)(d:Nat):Prop:=∀(op n:Int) (s:ByteArray) (A:Kr) (m c:Nat) (w:World),(bb x).rep w (au w) [.int .i64 op,.int .i64 n,.string s,.slice A m c]→
 Calls prog 145 #[.agg #[.int .i64 op,.int .i64 n,.string s,.slice A m c]] w fun e ac=>(∃h:Int,e=.returned (.int .i64 h)∧0≤h∧h≤2*d)∧Ext w ac
attribute [local go_sem ↓] fW fX
namespace BC
theorem oO(h:p:=by
 have bN:m≤2:=by rw[←hs.1,JU];exact tb x
 have ds:m=x.args.length:=by rw[←hs.1,JU]
 obtain⟨dv,aP,bu,b9⟩:=iF ds hx hs ao;clear aU ao hs hx ds;go_enter func145,ntmps145;go_wp2;generalize bg:World.alloc _ _=W;have aF:Ext w W:=bg▸Kn.alloc _;have aL:af W w.heap.size 57 #[.int .i64 x.aU,.int .i64 x.numOf,.string x.a1,.slice A m c]:=bg▸Ko;clear bg;obtain⟨a2,bs⟩:=aM aF aL;clear aF aL;go_loopw [3,4] (fun bD ba wr=>∃(k:Nat) (h:Int),k≤m∧ba=.int .i64 k∧bD=.int .i64 h∧0≤h∧(h=0∨h+1≤2*d)∧Ext w wr∧af wr w.heap.size 57 #[.int .i64 x.aU,.int .i64 x.numOf,.string x.a1,.slice A m c]) (fun _ ba _=>m - (intOf ba).toNat)
 case atStart=>exact⟨0,0,ab,rfl,rfl,ab,.inl rfl,a2.o,bs.o⟩
 case round=>
  obtain⟨k,h,aj,rfl,rfl,f,aQ,aF,aL⟩:=hrel;clear a2 bs;obtain⟨a2,bs⟩:=aM aF aL;obtain⟨a0,ap,ak⟩:=aL.two;by_cases aw:k<m
  ·obtain⟨b,o,z,cs,rfl,O,a4,bJ,a3,Z⟩:=(bu.on (Fr.ext aF)).gN cZ aw;clear aF aL
   match cs,a3 with
   | [cj,cr,bm,aa],_=>
   have c0:=Z 0 cj rfl;have c1:=Z 1 cr rfl;have c2:=Z 2 bm rfl;have c3:=Z 3 aa rfl;simp only[J0] at c0;have aW:b<wr.heap.size:=O;clear Z O;obtain⟨B,bZ,eL,e,cu,bO⟩:=aV.1 bJ;simp only[List.cons.injEq,and_true] at e;obtain⟨rfl,rfl,rfl,rfl⟩:=e;obtain⟨e0,R,hC⟩:=b9.o k z a4;obtain⟨bL,bM,ac⟩:=ez hC a4 bJ;clear a4 bJ bO hC;go_wp2_with(fail);refine(bL.o _ _ _ _ _ _ wr ac.o).mono ?_;rintro e aO ⟨⟨aC,rfl,g,i⟩,bI⟩;have J:=ad (a2.trans bI);have bY:=ad (bs.ak bI);have d0:=(bI.cell (j:=o+k*4) aW (fun h=>h)).trans c0;have bx:b<aO.heap.size:=JR aW bI.size;have cd:k≤1:=ab;clear bI a0 ap ak c0 c1 c2 c3 aW;obtain⟨a0,ap,ak⟩:=bY.two;go_wp2_with(fail);refine(rf x.aU x.numOf z.aU x.a1 b o m c k aO cd aw bx d0).mono ?_;rintro e bU ⟨rfl,bX⟩;have bl:=ad (J.trans bX);have bz:=ad (bY.ak bX);clear bX a0 ap ak d0 bx;cases dn x.aU z.aU (k == 1)
   ·go_wp2;go_roundw
    case rel=>exact⟨k+1,max h aC,ab,by go_num,rfl,ab,.inr ab,bl.o,bz.o⟩
    case measure=>exact aB
   ·go_wp2;go_roundw
    case rel=>exact⟨k+1,max h (aC+1),ab,by go_num,rfl,ab,.inr ab,bl.o,bz.o⟩
    case measure=>exact aB
  ·obtain rfl:k=m:=ab;clear aF aL;have g2:decide ((k:Int)<(k:Int))=false:=by simp
   go_wp2_with(fail);refine(fY x.aU wr).mono ?_;rintro e aO ⟨rfl,bI⟩;have J:=ad (a2.trans bI);clear bI;by_cases cl:cK x.aU=5
   ·have O:h+1≤2*d:=by
     rcases aQ with rfl|aQ
     ·have:0<d:=by
       rcases Nat.eq_zero_or_pos d with h0|h0
       ·exfalso;subst h0;have ae:=aP.o;cases x<;>first|exact ae.elim|exact absurd cl (show ¬cK 1=5 by decide)|exact absurd cl (show ¬cK 2=5 by decide)
       ·exact h0
      omega
     ·exact aQ
    rw[cl];go_wp2;go_ret;exact⟨⟨h+1,rfl,ab,O⟩,J.o⟩
   ·have q5:(cK x.aU == 5)=false:=by simpa using cl
    go_wp2;go_ret;exact⟨⟨h,rfl,f,ab⟩,J.o⟩
 ):p:=h
end BC
open BC in
theorem nF(N:Ks)(d:Nat)(hd:d≤1000)(x:VE)(hx:x.src N d)(ao:∀(k:Nat) (y:VE),x.args[k]?=some y→∃e,d=e+1∧rK y e):rK x d:=by
 intro op n s A m c w aU;exact oN
theorem vo(N:Ks):∀(d:Nat),d≤1000→∀(x:VE),x.src N d→rK x d:=by
 intro d
 induction d with
 | zero=>exact fun hd x hx=>nF N 0 hd x hx fun k y a4=>by rw[qh hx] at a4;simp at a4
 | succ d ao=>exact fun hd x hx=>nF N (d+1) hd x hx fun k y a4=>⟨d,rfl,ao ab y (qg hx a4)⟩
theorem fb(x:VE)(hx:vF x)(op n:Int)(s:ByteArray)(A:Kr)(m c:Nat)(w:World)(aU:(bb x).rep w (au w) [.int .i64 op,.int .i64 n,.string s,.slice A m c]) :
  Calls prog 127 #[.agg #[.int .i64 op,.int .i64 n,.string s,.slice A m c]] w fun e ac=>e=.returned (.bool true)∧Ext w ac:=by
 obtain⟨N,d,hN,hd,hs⟩:=hx;have aX:=ad aU;have b:=ad (yo N hN d x hs);have a:=ad (vo N d ab x hs);clear aU hs hN;go_enter func127,ntmps127;go_wp2_with(fail);generalize bg:World.alloc _ _=W;have aF:Ext w W:=bg▸Kn.alloc _;have aL:af W w.heap.size 57 #[.int .i64 op,.int .i64 n,.string s,.slice A m c]:=bg▸Ko;clear bg;refine(b.o _ _ _ _ _ _ W (D.on aX.o (Fr.ext aF))).mono ?_;rintro e aO ⟨rfl,bI⟩;have J:=ad (aF.trans bI);obtain⟨a0,ap,ak⟩:=(aL.ak bI).two;clear aF aL bI;go_wp2_with(fail);refine(a.o _ _ _ _ _ _ aO (D.on aX.o (Fr.ext J.o))).mono ?_;rintro e bU ⟨⟨h,rfl,h0,ae⟩,bX⟩;have bl:=ad (J.trans bX);have q:decide (h≤24)=true:=by simp;omega
 clear bX a0 ap ak;go_wp2;go_ret;exact⟨rfl,bl.o⟩
theorem rq(r:eF)(aU:n7 r)(s:ByteArray)(A:Kr)(n c:Nat)(w:World)(h:(km r).rep w (au w) [.string s,.slice A n c]) :
  Calls prog 129 #[.agg #[.string s,.slice A n c]] w fun e ac=>e=.returned (.bool true)∧Ext w ac:=by
 obtain⟨I,aZ,az,e,bJ,hs⟩:=jk.1 h;simp only[List.cons.injEq,Value.string.injEq,Value.slice.injEq,and_true] at e;obtain⟨rfl,rfl,rfl,rfl⟩:=e;have H:=ad (show jr r.name=true from aU.1);have U:r.name.size≤1000000:=by
  have:=eh aU.1;have aC:r.name.size=r.name.data.toList.length:=rfl;omega
 obtain⟨cc,bu⟩:=aM aU.2 hs;clear h hs aU;go_enter func129,ntmps129;go_wp2_with(fail);generalize bg:World.alloc _ _=W;have aF:Ext w W:=bg▸Kn.alloc _;have aL:af W w.heap.size 189 #[.string r.name,.slice A n c]:=bg▸Ko;clear bg;refine(gP r.name W U).mono ?_;rintro e aO ⟨rfl,bI⟩;rw[H.o];have J:=ad (aF.trans bI);have bY:=ad (aL.ak bI);obtain⟨a0,ap,ak⟩:=(aL.ak bI).two;clear aF aL bI
 cases al:r.idx with
 | none=>
  have h0:=bu.1;rw[al] at h0;obtain rfl:0=n:=h0;clear al;go_wp2;go_ret
  exact⟨rfl,J.o⟩
 | some x=>
  have aP:=ad (cc.o x al);have h0:=bu.on (Fr.ext J.o);rw[al] at h0;obtain rfl:1=n:=h0.1;obtain⟨b,o,br,Z,ax,E,rfl,O,bp,c0,c1,c2,c3⟩:=Sl.C2 h0 (cZ x);obtain⟨B,bZ,eL,e,cu,bO⟩:=aV.1 bp;simp only[List.cons.injEq,and_true] at e;obtain⟨rfl,rfl,rfl,rfl⟩:=e;have aW:b<aO.heap.size:=O;have T:=ad bp;clear al h0 bO bp O cc bu;go_wp2_with(fail);refine(fb x aP.o _ _ _ _ _ _ aO T.o).mono ?_;rintro e bU ⟨rfl,bX⟩;have bl:=ad (J.trans bX);clear bX;go_wp2;go_ret;exact⟨rfl,bl.o⟩
end
theorem kG{eo en:Int}{es:ByteArray}{EA:Kr}{em ec:Nat}(h:(nZ none).rep w P [.int .i64 eo,.int .i64 en,.string es,.slice EA em ec]):eo=0∧en=0∧es=⟨#[]⟩∧em=0:=by
 obtain⟨A,c,e⟩:=eT.1 h;simp only[List.cons.injEq,Value.int.injEq,Value.string.injEq,Value.slice.injEq,and_true,true_and] at e;exact⟨e.1,e.2.1,e.2.2.1,e.2.2.2.2.1⟩
theorem gY{A:Kr}{n c:Nat}(h:(pj none).rep w P [.string s,.slice A n c]):s=⟨#[]⟩∧n=0:=by
 unfold pj fE at h;rw[bu,b9] at h;obtain⟨y,e,h⟩:=h;injection e with e1 e2;injection e1 with e1;subst e2;obtain⟨I,aZ,az,bm,e,_,hs,aC⟩:=aD.1 h;injection e with e2 e3;injection e2 with _ e2 _;exact⟨e1,by rw[e2];exact hs.1.symm⟩
theorem Cz(h:(gu (.mx r)).rep w P cs):∃s A n c EA ec,cs=[.bool true,.string s,.slice A n c,.int .i64 0,.int .i64 0,.string ⟨#[]⟩,.slice EA 0 ec]∧(km r).rep w P [.string s,.slice A n c]:=by
 exact Fu
namespace BD
theorem u0(h:p:=by
 obtain⟨A,n,c,a9,rfl,_,hs,bi⟩:=aD.1 hx;rw[aJ] at bi;subst bi;obtain rfl:n=0:=hs.1.symm;exact yP
 ):p:=h
end BD
open BD in
theorem Cx{e:VE}(h:(gu (.ex e)).rep w P cs):∃cj rc op n s A m c,cs=[.bool false,.string ⟨#[]⟩,.slice cj 0 rc,.int .i64 op,.int .i64 n,.string s,.slice A m c]∧(bb e).rep w P [.int .i64 op,.int .i64 n,.string s,.slice A m c]:=by
 exact uZ
theorem hP(h:bp s.data.toList=true):s.size≤1000000:=by
 have:=eh h;have aC:s.size=s.data.toList.length:=rfl;omega
def E8(b:al):Prop:=∀(d deep:Nat) (A:Kr) (n c:Nat) (w:World),gg d b→b.num≤1000000→deep+d≤23→Sl w (au w) A n (cP b)→
 Calls prog 113 #[.slice A n c,.int .i64 deep] w fun e ac=>e=.returned (.bool true)∧Ext w ac
namespace BE
theorem zN(h:p:=by
 have y:=ad Q.o;have K:=ad (a2.trans l);obtain⟨q,x⟩:=aM l aL;obtain⟨a0,ap,ak⟩:=aL.two;clear bg l aL d0 d1 d2 d3 d4 d5 d6 d7 d8 d9 d10 Q aW
 cases s with
 | set v nm e=>
  obtain⟨aa,hex⟩:=an.o;have H:=ad (show jr nm=true from aa);have U:=hP (show bp nm.data.toList=true from aa);have a8:=ad hex;obtain⟨rfl,rfl⟩:=gY y.ref;obtain rfl:0=n1:=y.args.1;obtain rfl:0=n2:=y.th.1;obtain rfl:0=n3:=y.el.1;clear aa hex;simp only[ax.kind,ax.name] at *;cases v
  all_goals as_aux_lemma=>
   simp only[Kl,if_false,if_true] at *;go_wp2_with(fail);refine(gP nm _ U).mono ?_;rintro e aC ⟨rfl,he⟩;have br:=ad (K.trans he);have m:=ad (q.trans he);have G:=ad (x.ak he);clear he a0 ap ak K q x;obtain⟨a0,ap,ak⟩:=G.two;rw[H.o];go_wp2_with(fail);refine(fb e a8.o _ _ _ _ _ _ _ (D.on y.expr (Fr.ext m.o))).mono ?_;rintro e aD ⟨rfl,he⟩;have J:=ad (br.trans he);have E:=ad (m.trans he);have bY:=ad (G.ak he);clear he a0 ap ak br m G;obtain⟨a0,ap,ak⟩:=bY.two;go_wp2_with(fail);refine(gz _ _ _).mono ?_;rintro e aO ⟨rfl,he⟩;have bl:=ad (J.trans he);have I:=ad (E.trans he);have bz:=ad (bY.ak he);clear he a0 ap ak J E bY;obtain⟨a0,ap,ak⟩:=bz.two;go_wp2;refine wp_loop_rounds 1 ?_;rw[rounds_succ]
   exact wN
 | call g nm aS=>
  obtain⟨aa,az,hlen⟩:=an.o;have H:=ad (show jr nm=true from aa);have U:=hP (show bp nm.data.toList=true from aa);obtain⟨rfl,rfl,rfl,rfl⟩:=kG y.expr;obtain⟨rfl,rfl⟩:=gY y.ref;have ao:=ad az;have cy:n1≤1000:=by have:=y.args.1;rw[JU] at this;simp only[ax.args] at this;omega
  obtain rfl:0=n2:=y.th.1;obtain rfl:0=n3:=y.el.1;clear aa az hlen;simp only[ax.kind,ax.name] at *;cases g
  all_goals as_aux_lemma=>
   simp only[Kl,if_false,if_true] at *;go_wp2_with(fail);refine(gP nm _ U).mono ?_;rintro e aC ⟨rfl,he⟩;have br:=ad (K.trans he);have m:=ad (q.trans he);have G:=ad (x.ak he);clear he a0 ap ak K q x;obtain⟨a0,ap,ak⟩:=G.two;rw[H.o];go_wp2_with(fail);refine(iP _ _ _).mono ?_;rintro e aD ⟨rfl,he⟩;have J:=ad (br.trans he);have E:=ad (m.trans he);have bY:=ad (G.ak he);clear he a0 ap ak br m G;obtain⟨a0,ap,ak⟩:=bY.two;go_wp2_with(fail);refine(gz _ _ _).mono ?_;rintro e aO ⟨rfl,he⟩;have bl:=ad (J.trans he);have I:=ad (E.trans he);have bz:=ad (bY.ak he);clear he a0 ap ak J E bY;obtain⟨a0,ap,ak⟩:=bz.two;go_wp2;have aQ:=ad (show Sl wr (au wr) ce n1 (aS.map gu) from y.args);go_loopw [12] (fun a1 bV=>∃j:Nat,j≤n1∧a1=.int .i64 j∧Ext w bV∧Ext wr bV∧af bV wr.heap.size 192 _) (fun a1 _=>n1 - (intOf a1).toNat)
   case atStart=>exact⟨0,ab,rfl,bl.o,I.o,bz.o⟩
   case round=>
    obtain⟨j,bc,rfl,aF,aq,aL⟩:=hrel;clear bl I bz a0 ap ak;obtain⟨bl,I,bz⟩:=ez aF aq aL;obtain⟨a0,ap,ak⟩:=aL.two;by_cases Y:j<n1
    ·obtain⟨cT,cY,a,cs,rfl,av,P,S,aE,f⟩:=(aQ.on (Fr.ext aq)).gN sc Y;have ai:cT<wr.heap.size:=av;have aP:=ad (ao.o a (JT P))
     cases a with
     | mx r=>
      obtain⟨aN,aV,bj,ac,be,bh,rfl,T⟩:=Cz S;have f0:=f 0 _ rfl;have f1:=f 1 _ rfl;have f2:=f 2 _ rfl;have f3:=f 3 _ rfl;have f4:=f 4 _ rfl;have f5:=f 5 _ rfl;have f6:=f 6 _ rfl;simp only[J0] at f0;have L:=ad T;clear f S T P aE av aF aq aL;go_upto_region 17 with(fail);generalize hV:World.alloc _ _=V;have t:Ext wr V:=hV▸Kn.alloc _;have hC:af V wr.heap.size 214 #[.bool true,.string aN,.slice aV bj ac,.int .i64 0,.int .i64 0,.string ⟨#[]⟩,.slice be 0 bh]:=hV▸Ko;have bA:=ad (bl.trans t);have ag:=ad (I.trans t);have bD:=ad (bz.ak t);have aG:=ad (D.on L.o (Fr.ext t));have bL:=ad hC;clear t hC hV a0 ap ak bl I bz L f0 f1 f2 f3 f4 f5 f6 ai;obtain⟨a0,ap,ak⟩:=bL.two;go_wp2_with(fail);refine(rq r aP.o _ _ _ _ _ aG.o).mono ?_;rintro bb a7 ⟨rfl,R⟩;have F:=ad (bA.trans R);have aK:=ad (ag.trans R);have N:=ad (bD.ak R);have bL:=ad (bL.ak R);clear a0 ap ak bA ag bD;obtain⟨a0,ap,ak⟩:=bL.two;go_wp2_with(fail);refine(iP _ _ _).mono ?_
      exact Fq
     | ex e=>
      obtain⟨bf,a4,M,aZ,aN,aV,am,ac,rfl,T⟩:=Cx S;have f0:=f 0 _ rfl;have f1:=f 1 _ rfl;have f2:=f 2 _ rfl;have f3:=f 3 _ rfl;have f4:=f 4 _ rfl;have f5:=f 5 _ rfl;have f6:=f 6 _ rfl;simp only[J0] at f0;have L:=ad T;clear f S T P aE av aF aq aL;go_upto_region 17 with(fail);generalize hV:World.alloc _ _=V;have t:Ext wr V:=hV▸Kn.alloc _;have hC:af V wr.heap.size 214 #[.bool false,.string ⟨#[]⟩,.slice bf 0 a4,.int .i64 M,.int .i64 aZ,.string aN,.slice aV am ac]:=hV▸Ko;have bA:=ad (bl.trans t);have ag:=ad (I.trans t);have bD:=ad (bz.ak t);have aG:=ad (D.on L.o (Fr.ext t));have bL:=ad hC;clear t hC hV a0 ap ak bl I bz L f0 f1 f2 f3 f4 f5 f6 ai;obtain⟨a0,ap,ak⟩:=bL.two;go_wp2_with(fail);refine(gz _ _ _).mono ?_;rintro bb a7 ⟨rfl,R⟩;have F:=ad (bA.trans R);have aK:=ad (ag.trans R);have N:=ad (bD.ak R);have bL:=ad (bL.ak R);clear a0 ap ak bA ag bD;obtain⟨a0,ap,ak⟩:=bL.two;go_wp2_with(fail);refine(fb e aP.o _ _ _ _ _ _ _ (D.on aG.o (Fr.ext R))).mono ?_;exact Fq
    ·obtain rfl:j=n1:=ab;clear aF aq aL
     exact wN
 | lock u r=>
  obtain⟨rfl,rfl,rfl,rfl⟩:=kG y.expr;obtain rfl:0=n1:=y.args.1;obtain rfl:0=n2:=y.th.1;obtain rfl:0=n3:=y.el.1;have aX:=ad (show n7 r from an.o);simp only[ax.kind,ax.name] at *;cases u
  all_goals as_aux_lemma=>
   simp only[Kl,if_false,if_true] at *;go_wp2_with(fail);refine(iP _ _ _).mono ?_;rintro e aC ⟨rfl,he⟩;have br:=ad (K.trans he);have m:=ad (q.trans he);have G:=ad (x.ak he);clear he a0 ap ak K q x;obtain⟨a0,ap,ak⟩:=G.two;go_wp2_with(fail);refine(rq r aX.o _ _ _ _ _ (D.on y.ref (Fr.ext m.o))).mono ?_
   exact Fs
 | ite e th el=>
  obtain⟨hex,b5,cd,aR,b0⟩:=an.o;obtain⟨a8,ah,aJ⟩:=ez hex aR b0;have ae:=ad (show deep+1+b5≤23 by have:=df.o;omega);obtain⟨rfl,rfl⟩:=gY y.ref;obtain rfl:0=n1:=y.args.1;clear hex aR b0 cd;simp only[ax.kind,ax.name] at *;as_aux_lemma=>
   go_wp2_with(fail);refine(fb e a8.o _ _ _ _ _ _ _ (D.on y.expr (Fr.ext q.o))).mono ?_;rintro e aC ⟨rfl,he⟩;have br:=ad (K.trans he);have m:=ad (q.trans he);have G:=ad (x.ak he);clear he a0 ap ak K q x;obtain⟨a0,ap,ak⟩:=G.two;go_wp2_with(fail);refine(gz _ _ _).mono ?_;rintro e aD ⟨rfl,he⟩;have J:=ad (br.trans he);have E:=ad (m.trans he);have bY:=ad (G.ak he);clear he a0 ap ak br m G;obtain⟨a0,ap,ak⟩:=bY.two;go_wp2;refine wp_loop_rounds 1 ?_;rw[rounds_succ];go_wp2_with(fail);refine((show E8 th from aH.1) b5 (deep+1) _ _ _ _ ah.o (J7 (Nat.le_add_right _ _) i.o) ae.o (y.th.on (Fr.ext E.o))).mono ?_;rintro e aO ⟨rfl,he⟩;have bl:=ad (J.trans he);have I:=ad (E.trans he);have bz:=ad (bY.ak he);clear he a0 ap ak J E bY;obtain⟨a0,ap,ak⟩:=bz.two;by_cases aT:n3=0
   ·subst aT;exact wN
   ·have cv:decide ((n3:Int) > 0)=true:=by simp;omega
    go_wp2_with(fail);refine((show E8 el from aH.2) b5 (deep+1) _ _ _ _ aJ.o (J7 (Nat.le_add_left _ _) i.o) ae.o (y.el.on (Fr.ext I.o))).mono ?_;rintro e bk ⟨rfl,he⟩;have bA:=ad (bl.trans he);have ag:=ad (I.trans he);have bD:=ad (bz.ak he);clear he a0 ap ak bl I bz;obtain⟨a0,ap,ak⟩:=bD.two;go_wp2;go_roundw
    case rel=>exact⟨k+1,ab,by go_num,bA.o⟩
    case measure=>exact aB
 | gb e th=>
  obtain⟨hex,b5,cd,aR⟩:=an.o;obtain⟨a8,ah⟩:=aM hex aR;have ae:=ad (show deep+1+b5≤23 by have:=df.o;omega);obtain⟨rfl,rfl⟩:=gY y.ref;obtain rfl:0=n1:=y.args.1;obtain rfl:0=n3:=y.el.1;clear hex aR cd;simp only[ax.kind,ax.name] at *;as_aux_lemma=>
   go_wp2_with(fail);refine(fb e a8.o _ _ _ _ _ _ _ (D.on y.expr (Fr.ext q.o))).mono ?_;rintro e aC ⟨rfl,he⟩;have br:=ad (K.trans he);have m:=ad (q.trans he);have G:=ad (x.ak he);clear he a0 ap ak K q x;obtain⟨a0,ap,ak⟩:=G.two;go_wp2_with(fail);refine(gz _ _ _).mono ?_;rintro e aD ⟨rfl,he⟩;have J:=ad (br.trans he);have E:=ad (m.trans he);have bY:=ad (G.ak he);clear he a0 ap ak br m G;obtain⟨a0,ap,ak⟩:=bY.two;go_wp2;refine wp_loop_rounds 1 ?_;rw[rounds_succ];go_wp2_with(fail);refine((show E8 th from aH.1) b5 (deep+1) _ _ _ _ ah.o (J7 (Nat.le_add_right _ _) i.o) ae.o (y.th.on (Fr.ext E.o))).mono ?_;rintro e aO ⟨rfl,he⟩;have bl:=ad (J.trans he);have I:=ad (E.trans he);have bz:=ad (bY.ak he);clear he a0 ap ak J E bY;obtain⟨a0,ap,ak⟩:=bz.two
   exact wN
 | ret=>
  obtain⟨rfl,rfl,rfl,rfl⟩:=kG y.expr;obtain⟨rfl,rfl⟩:=gY y.ref;obtain rfl:0=n1:=y.args.1;obtain rfl:0=n2:=y.th.1;obtain rfl:0=n3:=y.el.1;simp only[ax.kind,ax.name] at *;as_aux_lemma=>
   go_wp2_with(fail);refine(iP _ _ _).mono ?_;rintro e aC ⟨rfl,he⟩;have br:=ad (K.trans he);have m:=ad (q.trans he);have G:=ad (x.ak he);clear he a0 ap ak K q x;obtain⟨a0,ap,ak⟩:=G.two;go_wp2_with(fail);refine(gz _ _ _).mono ?_;exact Fs
 ):p:=h
theorem uS(h:p:=by
 have Q:=ad P;clear Z dG P a5 a3 O;exact zM
 ):p:=h
end BE
open BE in
theorem sD(b:al)(X:∀s∈b.list,E8 s.th∧E8 s.el):E8 b:=by
 intro d deep A n c w b9 z aA hs;have hl:b.list.length=n:=by rw[←hs.1,cx,JU]
 have hn:n≤1000000:=by have:=eJ b;omega
 have bd:deep≤23:=ab;have a6:decide ((deep:Int)≥24)=false:=by simp;omega
 rw[cx] at hs;obtain⟨bu,ay⟩:=aM hs X;have bi:=ad (gB b d b9);have aU:=ad (fun s (hs:s∈b.list)=>J7 (Nat.le_of_lt (ih b s hs)) z);have df:=ad aA;clear hs X b9 z hl aA;go_enter func113,ntmps113;go_wp2;go_loopw [5] (fun ba wr=>∃k:Nat,k≤n∧ba=.int .i64 k∧Ext w wr) (fun ba _=>n - (intOf ba).toNat)
 case atStart=>exact⟨0,ab,rfl,Kn⟩
 case round=>
  obtain⟨k,aj,rfl,aF⟩:=hrel;have a2:=ad aF;clear aF a6;by_cases aw:k<n
  ·obtain⟨c8,o,s,cs,rfl,O,a5,dG,a3,Z⟩:=(bu.on (Fr.ext a2.o)).gN mW aw;have aW:c8<wr.heap.size:=O;have an:=ad (bi.o s (JT a5));have aH:=ad (ay.o s (JT a5));have i:=ad (aU.o s (JT a5));obtain⟨eo,en,es,EA,em,ec,rs,cj,a9,rc,ce,n1,c1,A2,n2,c2,cf,n3,c3,rfl,P⟩:=k1 dG;exact uR
  ·obtain rfl:k=n:=ab;go_wp2;go_ret;exact⟨rfl,a2.o⟩
theorem tK(b:al):E8 b:=al.Cn sD b
end Go.Proofs.YtbkhhfajcgkpgaaGreat

/- Part 12 of the proof (Val PrI PrJ), without conditions of its own. -/
import Derived.Test.YtjhgbdckgkppnaaGreatQ11
namespace Go.Proofs.YtjhgbdckgkppnaaGreat
open Go.RowKit Go.Proofs.Tryz
set_option maxRecDepth 1000000
set_option maxHeartbeats 25600000
set_option linter.unusedVariables false
variable{s:ByteArray}{cs:List Value}{k:Nat}{P:Nat→Prop}{p:Prop}{α:Type}{w:World}{r:d2}
theorem aj.Ae{C:aj→Prop}(f:∀b:aj,(∀s∈b.list,C s.th∧C s.el)→C b):∀b:aj,C b:=by
 have c:C .nil:=f .nil fun s hs=>by simp[aj.list] at hs
 have fin:∀b:aj,(∀s∈b.list,C s.th∧C s.el)→C b∧∀s∈b.list,C s.th∧C s.el:=fun b h=>⟨f b h,h⟩
 suffices h:∀b:aj,C b∧∀s∈b.list,C s.th∧C s.el from fun b=>(h b).1
 intro b
 induction b with
 | nil=>exact fin _ fun s hs=>by simp[aj.list] at hs
 | set v n e rest aa=>
  exact ui
 | call g n aO rest aa=>
  exact ui
 | lock u r rest aa=>
  exact ui
 | ite e th el rest j o aa=>
  refine fin _ fun s hs=>?_;rcases Gt.1 hs with rfl|hs
  ·exact⟨j.1,o.1⟩
  ·exact aa.2 s hs
 | fj e th rest j aa=>
  refine fin _ fun s hs=>?_;rcases Gt.1 hs with rfl|hs
  ·exact⟨j.1,c⟩
  ·exact aa.2 s hs
 | ret rest aa=>
  exact ui
theorem hA:∀(b:aj) (s:ay),s∈b.list→s.th.num+s.el.num<b.num
 | .nil,s,h=>by simp[aj.list] at h
 | .set v n e rest,s,h=>by
  rcases Gt.1 h with rfl|h
  ·simp[ay.th,ay.el,aj.num]
  ·have:=hA rest s h;simp only[aj.num];omega
 | .call g n aO rest,s,h=>by
  rcases Gt.1 h with rfl|h
  ·simp[ay.th,ay.el,aj.num]
  ·have:=hA rest s h;simp only[aj.num];omega
 | .lock u r rest,s,h=>by
  rcases Gt.1 h with rfl|h
  ·simp[ay.th,ay.el,aj.num]
  ·have:=hA rest s h;simp only[aj.num];omega
 | .ite e th el rest,s,h=>by
  rcases Gt.1 h with rfl|h
  ·simp only[ay.th,ay.el,aj.num];omega
  ·have:=hA rest s h;simp only[aj.num];omega
 | .fj e th rest,s,h=>by
  rcases Gt.1 h with rfl|h
  ·simp only[ay.th,ay.el,aj.num];omega
  ·have:=hA rest s h;simp only[aj.num];omega
 | .ret rest,s,h=>by
  rcases Gt.1 h with rfl|h
  ·simp[ay.th,ay.el,aj.num]
  ·have:=hA rest s h;simp only[aj.num];omega
def tk(e:VE):Prop:=∃N d,du N∧d≤12∧e.src N d
def mT(r:d2):Prop:=br r.name.data.toList=true∧∀e,r.idx=some e→tk e
def ry:cQ→Prop
 | .mx r=>mT r
 | .ex e=>tk e
def fG:Nat→aj→Prop
 | _,.nil=>True
 | d,.set _ n e rest=>br n.data.toList=true∧tk e∧fG d rest
 | d,.call _ n aO rest=>(br n.data.toList=true∧(∀a∈aO,ry a)∧aO.length≤1000)∧fG d rest
 | d,.lock _ r rest=>mT r∧fG d rest
 | 0,.ite ..=>False
 | 0,.fj ..=>False
 | d+1,.ite e th el rest=>tk e∧fG d th∧fG d el∧fG (d+1) rest
 | d+1,.fj e th rest=>tk e∧fG d th∧fG (d+1) rest
 | d,.ret rest=>fG d rest
def FI(d:Nat):ay→Prop
 | .set _ n e=>br n.data.toList=true∧tk e
 | .call _ n aO=>br n.data.toList=true∧(∀a∈aO,ry a)∧aO.length≤1000
 | .lock _ r=>mT r
 | .ite e th el=>tk e∧∃k,d=k+1∧fG k th∧fG k el
 | .fj e th=>tk e∧∃k,d=k+1∧fG k th
 | .ret=>True
theorem fX:∀(b:aj) (d:Nat),fG d b→∀s∈b.list,FI d s
 | .nil,d,_,s,hs=>by simp[aj.list] at hs
 | .set v n e rest,d,h,s,hs=>by
  have F:br n.data.toList=true∧tk e∧fG d rest:=by cases d<;>exact h
  rcases Gt.1 hs with rfl|hs
  ·exact⟨F.1,F.2.1⟩
  ·exact fX rest d F.2.2 s hs
 | .call g n aO rest,d,h,s,hs=>by
  have F:(br n.data.toList=true∧(∀a∈aO,ry a)∧aO.length≤1000)∧fG d rest:=by cases d<;>exact h
  rcases Gt.1 hs with rfl|hs
  ·exact F.1
  ·exact fX rest d F.2 s hs
 | .lock u r rest,d,h,s,hs=>by
  have F:mT r∧fG d rest:=by cases d<;>exact h
  rcases Gt.1 hs with rfl|hs
  ·exact F.1
  ·exact fX rest d F.2 s hs
 | .ite e th el rest,0,h,s,hs=>h.elim
 | .fj e th rest,0,h,s,hs=>h.elim
 | .ite e th el rest,d+1,h,s,hs=>by
  rcases Gt.1 hs with rfl|hs
  ·exact⟨h.1,d,rfl,h.2.1,h.2.2.1⟩
  ·exact fX rest (d+1) h.2.2.2 s hs
 | .fj e th rest,d+1,h,s,hs=>by
  rcases Gt.1 hs with rfl|hs
  ·exact⟨h.1,d,rfl,h.2.1⟩
  ·exact fX rest (d+1) h.2.2 s hs
 | .ret rest,d,h,s,hs=>by
  have F:fG d rest:=by cases d<;>exact h
  rcases Gt.1 hs with rfl|hs
  ·trivial
  ·exact fX rest d F s hs
theorem mT.src(h:mT r):Bn r:=fun e he=>by
 obtain⟨N,d,_,_,hs⟩:=h.2 e he;exact⟨N,d,hs⟩
theorem ry.src{a:cQ}(h:ry a):Cv a:=by
 cases a with
 | mx r=>exact mT.src h
 | ex e=>
  obtain⟨N,d,_,_,hs⟩:=h;exact⟨N,d,hs⟩
theorem tk.src{e:VE}(h:tk e):∃N d,e.src N d:=by
 obtain⟨N,d,_,_,hs⟩:=h;exact⟨N,d,hs⟩
theorem ik:∀(b:aj) (d:Nat),fG d b→l6 b
 | .nil,_,_=>trivial
 | .set v n e rest,d,h=>by
  have F:br n.data.toList=true∧tk e∧fG d rest:=by cases d<;>exact h
  exact⟨F.2.1.src,ik rest d F.2.2⟩
 | .call g n aO rest,d,h=>by
  have F:(br n.data.toList=true∧(∀a∈aO,ry a)∧aO.length≤1000)∧fG d rest:=by cases d<;>exact h
  exact⟨⟨fun a aV=>(F.1.2.1 a aV).src,F.1.2.2⟩,ik rest d F.2⟩
 | .lock u r rest,d,h=>by
  have F:mT r∧fG d rest:=by cases d<;>exact h
  exact⟨F.1.src,ik rest d F.2⟩
 | .ite e th el rest,0,h=>h.elim
 | .fj e th rest,0,h=>h.elim
 | .ite e th el rest,d+1,h=>⟨h.1.src,ik th d h.2.1,ik el d h.2.2.1,ik rest (d+1) h.2.2.2⟩
 | .fj e th rest,d+1,h=>⟨h.1.src,ik th d h.2.1,ik rest (d+1) h.2.2⟩
 | .ret rest,d,h=>by
  have F:fG d rest:=by cases d<;>exact h
  exact ik rest d F
theorem Bz{G:Env}(bR:mg G){V:GS}(hV:du V)(h:pN G V r):mT r:=by
 rcases h with⟨m,hm,hn,ac,J⟩|⟨hp,aJ⟩
 ·refine⟨by rw[←hn];exact bR.af m hm,fun e he=>?_⟩;by_cases hs:0<m.size
  ·obtain⟨x,hx,aC⟩:=ac hs;rw[hx] at he;injection he with he;subst he;exact⟨V,2,hV,ad,aC⟩
  ·rw[J hs] at he;cases he
 ·refine⟨bR.params _ hp,fun e he=>?_⟩;rw[aJ] at he;cases he
theorem uY{G:Env}(bR:mg G){V:GS}(hV:du V):∀(ps:List (ByteArray×Bool)) (aO:List cQ),hN G V ps aO→(∀a∈aO,ry a)∧aO.length=ps.length
 | [],[],_=>⟨fun a h=>by simp at h,rfl⟩
 | p::ps,a::aO,h=>by
  obtain⟨j,o⟩:=uY bR hV ps aO h.2;refine⟨fun x hx=>?_,by simp[o]⟩;rcases Gt.1 hx with rfl|hx
  ·cases x with
   | mx r=>exact Bz bR hV h.1.2
   | ex e=>exact⟨V,2,hV,ad,h.1.2⟩
  ·exact j x hx
 | [],_::_,h=>h.elim
 | _::_,[],h=>h.elim
theorem jm{G:Env}(bR:mg G):∀(b:aj) (d:Nat) (V T:GS),du V→ej G d V T b→fG d b
 | .nil,d,V,T,hV,h=>by cases d<;>trivial
 | .set true n e rest,d,V,T,hV,h=>by
  have F:br n.data.toList=true∧n∉T∧e.src V 2∧ej G d (V++[n]) (T++[n]) rest:=by cases d<;>exact h
  have aa:=jm bR rest d _ _ (i4 hV F.1) F.2.2.2;have r:br n.data.toList=true∧tk e∧fG d rest:=⟨F.1,⟨V,2,hV,ad,F.2.2.1⟩,aa⟩
  cases d<;>exact r
 | .set false n e rest,d,V,T,hV,h=>by
  have F:n∈V∧e.src V 2∧ej G d V T rest:=by cases d<;>exact h
  have aa:=jm bR rest d _ _ hV F.2.2;have r:br n.data.toList=true∧tk e∧fG d rest:=⟨hV n F.1,⟨V,2,hV,ad,F.2.1⟩,aa⟩
  cases d<;>exact r
 | .call g n aO rest,d,V,T,hV,h=>by
  have F:(∃ps,(n,ps)∈G.funcs∧hN G V ps aO)∧ej G d V T rest:=by cases d<;>exact h
  have aa:=jm bR rest d _ _ hV F.2;obtain⟨ps,bi,P⟩:=F.1;obtain⟨j,y⟩:=uY bR hV ps aO P;have aw:=bR.funcs _ bi;have hle:aO.length≤1000:=by have:=aw.2;simp only[] at this;omega
  have r:(br n.data.toList=true∧(∀a∈aO,ry a)∧aO.length≤1000)∧fG d rest:=⟨⟨aw.1,j,hle⟩,aa⟩
  cases d<;>exact r
 | .lock u r rest,d,V,T,hV,h=>by
  have F:pN G V r∧ej G d V T rest:=by cases d<;>exact h
  have aa:=jm bR rest d _ _ hV F.2;have r:mT r∧fG d rest:=⟨Bz bR hV F.1,aa⟩
  cases d<;>exact r
 | .ite e th el rest,0,V,T,hV,h=>h.elim
 | .fj e th rest,0,V,T,hV,h=>h.elim
 | .ite e th el rest,d+1,V,T,hV,h=>⟨⟨V,2,hV,ad,h.1⟩,jm bR th d V T hV h.2.1,jm bR el d V T hV h.2.2.1,jm bR rest (d+1) V T hV h.2.2.2⟩
 | .fj e th rest,d+1,V,T,hV,h=>⟨⟨V,2,hV,ad,h.1⟩,jm bR th d V T hV h.2.1,jm bR rest (d+1) V T hV h.2.2⟩
 | .ret rest,d,V,T,hV,h=>by
  have F:ej G d V T rest:=by cases d<;>exact h
  have aa:=jm bR rest d _ _ hV F;cases d<;>exact aa
def gN(g:ByteArray×Int):List UInt8:=aS (gD g)
def jk(m:bF):List UInt8:=aS (gE m)
def ji(f:aG):List UInt8:=aS (gC f)
def gh(l:List (ByteArray×Bool)):List UInt8:=aS (dH (l.map fO))
theorem AA(g:ByteArray×Int):gN g=[118,97,114,32]++(g.1.data.toList++((if g.2=0 then [] else [32,61,32]++aS (gF g.2))++[59,10])):=by
 unfold gN gD;split
 ·simp[aS,Atom.bytes,kw]
 ·simp only[aX,a2,Gs];simp[aS,Atom.bytes,kw]
theorem AO(m:bF):jk m=(if m.re then [114] else [])++([109,117,116,101,120,32]++(m.name.data.toList++((if 0<m.size then [91]++(aS (gF m.size)++[93]) else [])++[59,10]))):=by
 unfold jk gE;by_cases h:0<m.size
 ·cases m.re<;>simp[h,aS,Atom.bytes,kw,e4]
 ·cases m.re<;>simp[h,aS,Atom.bytes,kw,e4]
theorem oB{l:List (ByteArray×Bool)}{q:ByteArray×Bool}(h:l[k]?=some q):gh (l.take (k+1))=gh (l.take k)++((if 0<k then [44,32] else [])++((if q.2 then [109,117,116,101,120,32] else [])++q.1.data.toList)):=by
 have ap:k<l.length:=(List.getElem?_eq_some_iff.1 h).1;have bu:aS (fO q)=(if q.2 then [109,117,116,101,120,32] else [])++q.1.data.toList:=by
  unfold fO;split<;>simp[aS,Atom.bytes,kw,e4]
 unfold gh;rw[List.take_add_one,h,Gi];show aS (dH (List.map fO (List.take k l)++[fO q]))=_
 rw[kH];by_cases h0:0<k
 ·rw[if_neg (by intro e;have:=congrArg List.length e;simp only[Gf,List.length_take,Gw] at this;omega),if_pos h0,a2,aX,aX,bu];simp[Atom.bytes]
 ·obtain rfl:k=0:=ad;simp[dH,aS,←bu]
theorem Ar(f:aG):ji f=[102,117,110,99,32]++(f.name.data.toList++([40]++(gh f.params++([41,32,123,10]++(cm 1 f.body++[125,10]))))):=by
 unfold ji gC gh cm;simp only[aX,a2];simp[aS,Atom.bytes,kw]
theorem kz(f:α→List Atom)(l:List α):aS (l.flatMap f)=(l.map fun x=>aS (f x)).flatten:=by
 induction l with
 | nil=>rfl
 | cons a l aa=>rw[Gx,a2,aa];simp
def eB{α:Type}(f:α→List UInt8)(l:List α):List UInt8:=(l.map f).flatten
theorem lP{f:α→List UInt8}{l:List α}{x:α}(h:l[k]?=some x):eB f (l.take (k+1))=eB f (l.take k)++f x:=by
 unfold eB;rw[List.take_add_one,h,Gi,List.flatten_append];simp
theorem jP(f:α→List UInt8)(l:List α)(k:Nat):(eB f (l.take k)).length≤(eB f l).length:=by
 conv=>rhs;rw[←List.take_append_drop k l]
 unfold eB;rw[Gi,List.flatten_append,Gd];omega
theorem pE(p:bC):aS (eP p)=eB gN p.globals++(eB jk p.af++eB ji p.funcs):=by
 unfold eP;rw[a2,a2,kz,kz,kz];rfl
section
theorem hT(A:GR)(c:Nat)(w:World):Calls prog 128 #[.agg #[.int .i64 0,.int .i64 0,.string ⟨#[]⟩,.slice A 0 c]] w fun e ab=>e=.returned (.bool true)∧Ext w ab:=by
 go_enter func128,ntmps128;go_wp2;go_ret;exact⟨rfl,GN.alloc _⟩
theorem fV(A:GR)(c:Nat)(w:World):Calls prog 130 #[.agg #[.string ⟨#[]⟩,.slice A 0 c]] w fun e ab=>e=.returned (.bool true)∧Ext w ab:=by
 go_enter func130,ntmps130;go_wp2;go_ret;exact⟨rfl,GN.alloc _⟩
def pR(x:VE):Prop:=∀(op n:Int) (s:ByteArray) (A:GR) (m c:Nat) (w:World),(a4 x).rep w (au w) [.int .i64 op,.int .i64 n,.string s,.slice A m c]→
 Calls prog 147 #[.agg #[.int .i64 op,.int .i64 n,.string s,.slice A m c]] w fun e ab=>e=.returned (.bool true)∧Ext w ab
namespace y3
theorem nA(h:p:=by
 have a8:=ae hs;have cW:=ae aa;clear aX aa;go_enter func147,ntmps147;go_wp2_with (fail);generalize bg:World.alloc _ _=W;have av:Ext w W:=bg▸GN.alloc _;have aT:ag W w.heap.size 55 #[.int .i64 x.aU,.int .i64 x.numOf,.string x.aZ,.slice A m c]:=bg▸GO;clear bg;refine(fy x.aU W).mono ?_;rintro e aH ⟨rfl,ar⟩;have bh:=ae (av.trans ar);have a4:=ae (aT.al ar);obtain⟨a0,al,af⟩:=(aT.al ar).two;clear av aT ar;have P:=hs.1;rw[Gf] at P;clear hs;have key:∀(n0:Nat) (u:x.args.length=n0),True:=fun _ _=>trivial;clear key
 cases x with
 | num n=>
  have hn:0≤n∧n<4611686018427387904:=by cases d<;>exact hx
  obtain rfl:0=m:=P;simp only[VE.aU,VE.numOf,VE.aZ] at *;have ch:decide (n≥0)=true:=by simp;omega
  rw[show cB 1=6 by decide];clear hx a8 cW hn;go_wp2;go_quiet (fail)
  go_wp2;refine wp_loop_rounds 1 ?_;rw[rounds_succ];go_wp2;go_ret
  exact⟨rfl,bh.drewN _⟩
 | ga s=>
  have hs:s∈N:=by cases d<;>exact hx
  obtain rfl:0=m:=P;simp only[VE.aU,VE.numOf,VE.aZ] at *;have ax:=ae (show iD s=true from cj s hs);have bN:s.size≤1000000:=by
   have:=dX (cj s hs);have J:s.size=s.data.toList.length:=rfl;omega
  rw[show cB 2=6 by decide];clear hx a8 cW hs;go_wp2;refine eh (fun _=>False) [(0,3),(1,0),(2,3),(3,3),(4,3),(5,0),(6,3),(7,3),(8,3),(9,3),(10,0),(11,3),(12,3),(13,3),(14,0),(15,3),(16,3),(17,3),(18,0),(19,3),(20,3),(21,3),(22,3),(23,0),(24,1),(25,3),(26,3),(27,3)] ?_;refine pf ?_;refine ph ?_
  iterate 2 refine pf ?_
  refine cY rfl (by rfl) ?_
  try simp only[PU]
  refine g7 rfl (by rfl) ?_
  try simp only[PU]
  refine cY rfl (by rfl) ?_
  try simp only[PU]
  iterate 2 refine pf ?_
  refine cY rfl (by rfl) ?_
  try simp only[PU]
  refine g7 rfl (by rfl) ?_
  try simp only[PU]
  refine cY rfl (by rfl) ?_
  try simp only[PU]
  iterate 2 refine pf ?_
  refine ph ?_
  iterate 3 refine pf ?_
  refine ph ?_
  iterate 4 refine pf ?_
  refine ph ?_;refine aA rfl (fun K hK=>?_);go_simp;refine(gf s _ bN).mono ?_;rintro e aQ ⟨rfl,bE⟩;rw[ax.o];refine hK _ _ (bE) ?_;clear hK K
  try simp only[PU]
  iterate 3 refine pf ?_
  refine aD ?_;have aW:=ae (bh.trans (Fr.aE bE));have bD:=(show ag aH w.heap.size 55 _ from a4.o).al (Fr.aE bE);obtain⟨a7,am,aE⟩:=bD.two;clear bE a0 al af bD;go_wp2;refine wp_loop_rounds 1 ?_;rw[rounds_succ];go_wp2;go_ret
  exact⟨rfl,aW.o⟩
 | loc j=>exact(by cases d<;>exact hx:False).elim
 | hR j=>exact(by cases d<;>exact hx:False).elim
 | un op y=>
  obtain rfl:1=m:=P
  have ct:op=3∨op=4:=by cases d with
   | zero=>exact hx.elim
   | succ d=>exact hx.1
  simp only[VE.aU,VE.numOf,VE.aZ] at *;rw[show cB op=5 by rcases ct with rfl|rfl<;>decide];clear hx ct;go_wp2;go_loopw [6] (fun E wr=>∃k:Nat,k≤1∧E=.int .i64 k∧Ext w wr∧ag wr w.heap.size 55 #[.int .i64 op,.int .i64 0,.string ⟨#[]⟩,.slice A 1 c]) (fun E _=>1 - (intOf E).toNat)
  case atStart=>exact⟨0,ad,rfl,bh.o,a4.o⟩
  case round=>
   obtain⟨k,ap,rfl,av,aT⟩:=hrel;clear bh a4 a0 al af;have bh:=ae av;have a4:=ae aT;obtain⟨a0,al,af⟩:=aT.two;by_cases ao:k<1
   ·obtain⟨b,o,z,cs,rfl,O,a3,Q,a1,Z⟩:=(a8.on (Fr.ext av)).fJ cS ao;clear av aT
    match cs,a1 with
    | [b8,b2,bu,bA],_=>
    exact C4
   ·obtain rfl:k=1:=ad;clear av aT;go_wp2;go_ret
    exact⟨rfl,bh.o⟩
 | bin op y z=>
  obtain rfl:2=m:=P
  have ct:5≤op∧op≤17:=by cases d with
   | zero=>exact hx.elim
   | succ d=>exact hx.1
  obtain⟨f,Y,a,_⟩:=rN ct;simp only[VE.aU,VE.numOf,VE.aZ] at *;rw[a];have c6:((f:Int) == 6)=false:=by simp;omega
  have bb:((f:Int) == 5)=false:=by simp;omega
  clear hx ct Y a;go_wp2;go_loopw [6] (fun E wr=>∃k:Nat,k≤2∧E=.int .i64 k∧Ext w wr∧ag wr w.heap.size 55 #[.int .i64 op,.int .i64 0,.string ⟨#[]⟩,.slice A 2 c]) (fun E _=>2 - (intOf E).toNat)
  case atStart=>exact⟨0,ad,rfl,bh.o,a4.o⟩
  case round=>
   obtain⟨k,ap,rfl,av,aT⟩:=hrel;clear bh a4 a0 al af c6 bb;have bh:=ae av;have a4:=ae aT;obtain⟨a0,al,af⟩:=aT.two;by_cases ao:k<2
   ·obtain⟨b,o,z,cs,rfl,O,a3,Q,a1,Z⟩:=(a8.on (Fr.ext av)).fJ cS ao;clear av aT
    match cs,a1 with
    | [b8,b2,bu,bA],_=>
    exact C4
   ·obtain rfl:k=2:=ad;clear av aT;go_wp2;go_ret;exact⟨rfl,bh.o⟩
 ):p:=h
end y3
open y3 in
theorem tA(N:GS)(cj:du N)(d:Nat)(x:VE)(hx:x.src N d)(aa:∀(k:Nat) (y:VE),x.args[k]?=some y→pR y):pR x:=by
 intro op n s A m c w aX;exact nz
theorem Cw{N:GS}{C:VE→Nat→Prop}(f:∀(d:Nat) (x:VE),x.src N d→(∀(k:Nat) (y:VE),x.args[k]?=some y→∃e,d=e+1∧C y e)→C x d):∀(d:Nat) (x:VE),x.src N d→C x d:=by
 intro d
 induction d with
 | zero=>exact fun x hx=>f 0 x hx fun k y a3=>by rw[oH hx] at a3;simp at a3
 | succ d aa=>exact fun x hx=>f (d+1) x hx fun k y a3=>⟨d,rfl,aa y (oG hx a3)⟩
theorem vK(N:GS)(cj:du N)(d:Nat)(x:VE)(hx:x.src N d):pR x:=
 Cw (C:=fun x _=>pR x) (fun d x hx aa=>tA N cj d x hx fun k y a3=>by obtain⟨_,_,h⟩:=aa k y a3;exact h) d x hx
def pP(x:VE)(d:Nat):Prop:=∀(op n:Int) (s:ByteArray) (A:GR) (m c:Nat) (w:World),(a4 x).rep w (au w) [.int .i64 op,.int .i64 n,.string s,.slice A m c]→
 Calls prog 148 #[.agg #[.int .i64 op,.int .i64 n,.string s,.slice A m c]] w fun e ab=>(∃h:Int,e=.returned (.int .i64 h)∧0≤h∧h≤2*d)∧Ext w ab
attribute [local go_sem ↓] fv fw
namespace y4
theorem nA(h:p:=by
 have L:m≤2:=by rw[←hs.1,Gf];exact qW x
 have r:m=x.args.length:=by rw[←hs.1,Gf]
 have dr:=ae r;have aU:=ae hx;have a8:=ae hs;have cW:=ae aa;clear aX aa hs hx r;go_enter func148,ntmps148;go_wp2;generalize bg:World.alloc _ _=W;have av:Ext w W:=bg▸GN.alloc _;have aT:ag W w.heap.size 55 #[.int .i64 x.aU,.int .i64 x.numOf,.string x.aZ,.slice A m c]:=bg▸GO;clear bg;have bh:=ae av;have a4:=ae aT;clear av aT;go_loopw [3,4] (fun bC E wr=>∃(k:Nat) (h:Int),k≤m∧E=.int .i64 k∧bC=.int .i64 h∧0≤h∧(h=0∨h+1≤2*d)∧Ext w wr∧ag wr w.heap.size 55 #[.int .i64 x.aU,.int .i64 x.numOf,.string x.aZ,.slice A m c]) (fun _ E _=>m - (intOf E).toNat)
 case atStart=>exact⟨0,0,ad,rfl,rfl,ad,.inl rfl,bh.o,a4.o⟩
 case round=>
  obtain⟨k,h,ap,rfl,rfl,a,aj,av,aT⟩:=hrel;clear bh a4;have bh:=ae av;have a4:=ae aT;obtain⟨a0,al,af⟩:=aT.two;by_cases ao:k<m
  ·obtain⟨b,o,z,cs,rfl,O,a3,Q,a1,Z⟩:=(a8.on (Fr.ext av)).fJ cS ao;clear av aT
   match cs,a1 with
   | [b8,b2,bu,bA],_=>
   have c0:=Z 0 b8 rfl;have c1:=Z 1 b2 rfl;have c2:=Z 2 bu rfl;have c3:=Z 3 bA rfl;simp only[Gl] at c0;have aN:b<wr.heap.size:=O;clear Z O;obtain⟨B,bR,bc,e,cP,cf⟩:=aV.1 Q;simp only[List.cons.injEq,and_true] at e;obtain⟨rfl,rfl,rfl,rfl⟩:=e;obtain⟨e0,Y,hC⟩:=cW.o k z a3;have bs:=ae hC;have bM:=ae a3;have F:=ae Q;clear a3 Q cf hC;go_wp2_with (fail);refine(bs.o _ _ _ _ _ _ wr F.o).mono ?_;rintro e aQ ⟨⟨J,rfl,f,g⟩,bE⟩;have aW:=ae (bh.trans bE);have bk:=ae (a4.al bE);have a6:=(bE.cell (j:=o+k*4) aN (fun h=>h)).trans c0;have bt:b<aQ.heap.size:=Gc aN bE.size;have bF:k≤1:=ad;clear bE a0 al af c0 c1 c2 c3 aN;obtain⟨a0,al,af⟩:=bk.two;go_wp2_with (fail);refine(pv x.aU x.numOf z.aU x.aZ b o m c k aQ bF ao bt a6).mono ?_;rintro e bJ ⟨rfl,bW⟩;have b6:=ae (aW.trans bW);have bK:=ae (bk.al bW);clear bW a0 al af a6 bt;cases dk x.aU z.aU (k == 1)
   ·go_wp2;go_roundw
    case rel=>exact⟨k+1,max h J,ad,by go_num,rfl,ad,.inr ad,b6.o,bK.o⟩
    case measure=>simp[intOf];omega
   ·go_wp2;go_roundw
    case rel=>exact⟨k+1,max h (J+1),ad,by go_num,rfl,ad,.inr ad,b6.o,bK.o⟩
    case measure=>simp[intOf];omega
  ·obtain rfl:k=m:=ad;clear av aT;have dN:decide ((k:Int)<(k:Int))=false:=by simp
   go_wp2_with (fail);refine(fy x.aU wr).mono ?_;rintro e aQ ⟨rfl,bE⟩;have aW:=ae (bh.trans bE);clear bE;by_cases cr:cB x.aU=5
   ·have O:h+1≤2*d:=by
     rcases aj with rfl|aj
     ·have:0<d:=by
       rcases Nat.eq_zero_or_pos d with h0|h0
       ·exfalso;subst h0;have ac:=aU.o;cases x<;>first|exact ac.elim|exact absurd cr (show ¬cB 1=5 by decide)|exact absurd cr (show ¬cB 2=5 by decide)
       ·exact h0
      omega
     ·exact aj
    rw[cr];go_wp2;go_ret;exact⟨⟨h+1,rfl,ad,O⟩,aW.o⟩
   ·have bb:(cB x.aU == 5)=false:=by simpa using cr
    go_wp2;go_ret;exact⟨⟨h,rfl,a,ad⟩,aW.o⟩
 ):p:=h
end y4
open y4 in
theorem mu(N:GS)(d:Nat)(hd:d≤1000)(x:VE)(hx:x.src N d)(aa:∀(k:Nat) (y:VE),x.args[k]?=some y→∃e,d=e+1∧pP y e):pP x d:=by
 intro op n s A m c w aX;exact nz
theorem sZ(N:GS):∀(d:Nat),d≤1000→∀(x:VE),x.src N d→pP x d:=by
 intro d
 induction d with
 | zero=>exact fun hd x hx=>mu N 0 hd x hx fun k y a3=>by rw[oH hx] at a3;simp at a3
 | succ d aa=>exact fun hd x hx=>mu N (d+1) hd x hx fun k y a3=>⟨d,rfl,aa ad y (oG hx a3)⟩
theorem eK(x:VE)(hx:tk x)(op n:Int)(s:ByteArray)(A:GR)(m c:Nat)(w:World)(aX:(a4 x).rep w (au w) [.int .i64 op,.int .i64 n,.string s,.slice A m c]) :
  Calls prog 127 #[.agg #[.int .i64 op,.int .i64 n,.string s,.slice A m c]] w fun e ab=>e=.returned (.bool true)∧Ext w ab:=by
 obtain⟨N,d,cj,hd,hs⟩:=hx;have aZ:=ae aX;have b:=ae (vK N cj d x hs);have a:=ae (sZ N d ad x hs);clear aX hs cj;go_enter func127,ntmps127;go_wp2_with (fail);generalize bg:World.alloc _ _=W;have av:Ext w W:=bg▸GN.alloc _;have aT:ag W w.heap.size 55 #[.int .i64 op,.int .i64 n,.string s,.slice A m c]:=bg▸GO;clear bg;refine(b.o _ _ _ _ _ _ W (D.on aZ.o (Fr.ext av))).mono ?_;rintro e aQ ⟨rfl,bE⟩;have aW:=ae (av.trans bE);obtain⟨a0,al,af⟩:=(aT.al bE).two;clear av aT bE;go_wp2_with (fail);refine(a.o _ _ _ _ _ _ aQ (D.on aZ.o (Fr.ext aW.o))).mono ?_;rintro e bJ ⟨⟨h,rfl,h0,ac⟩,bW⟩;have b6:=ae (aW.trans bW);have q:decide (h≤24)=true:=by simp;omega
 clear bW a0 al af;go_wp2;go_ret;exact⟨rfl,b6.o⟩
theorem pD(r:d2)(aX:mT r)(s:ByteArray)(A:GR)(n c:Nat)(w:World)(h:(jB r).rep w (au w) [.string s,.slice A n c]) :
  Calls prog 129 #[.agg #[.string s,.slice A n c]] w fun e ab=>e=.returned (.bool true)∧Ext w ab:=by
 obtain⟨az,L,aG,e,aL,hs⟩:=iz.1 h;simp only[List.cons.injEq,Value.string.injEq,Value.slice.injEq,and_true] at e;obtain⟨rfl,rfl,rfl,rfl⟩:=e;have ax:=ae (show iD r.name=true from aX.1);have bN:r.name.size≤1000000:=by
  have:=dX aX.1;have J:r.name.size=r.name.data.toList.length:=rfl;omega
 have cg:=ae aX.2;have a8:=ae hs;clear h hs aX;go_enter func129,ntmps129;go_wp2_with (fail);generalize bg:World.alloc _ _=W;have av:Ext w W:=bg▸GN.alloc _;have aT:ag W w.heap.size 172 #[.string r.name,.slice A n c]:=bg▸GO;clear bg;refine(gf r.name W bN).mono ?_;rintro e aQ ⟨rfl,bE⟩;rw[ax.o];have aW:=ae (av.trans bE);have bk:=ae (aT.al bE);obtain⟨a0,al,af⟩:=(aT.al bE).two;clear av aT bE
 cases aJ:r.idx with
 | none=>
  have h0:=a8.1;rw[aJ] at h0;obtain rfl:0=n:=h0;clear aJ;go_wp2;go_ret
  exact⟨rfl,aW.o⟩
 | some x=>
  have aU:=ae (cg.o x aJ);have h0:=a8.on (Fr.ext aW.o);rw[aJ] at h0;obtain rfl:1=n:=h0.1;obtain⟨b,o,bD,Z,ay,E,rfl,O,F,c0,c1,c2,c3⟩:=Sl.AV h0 (cS x);obtain⟨B,bR,bc,e,cP,cf⟩:=aV.1 F;simp only[List.cons.injEq,and_true] at e;obtain⟨rfl,rfl,rfl,rfl⟩:=e;have aN:b<aQ.heap.size:=O;have ao:=ae F;clear aJ h0 cf F O cg a8;go_wp2_with (fail);refine(eK x aU.o _ _ _ _ _ _ aQ ao.o).mono ?_;rintro e bJ ⟨rfl,bW⟩;have b6:=ae (aW.trans bW);clear bW;go_wp2;go_ret;exact⟨rfl,b6.o⟩
end
theorem jN{eo en:Int}{es:ByteArray}{EA:GR}{em ec:Nat}(h:(mR none).rep w P [.int .i64 eo,.int .i64 en,.string es,.slice EA em ec]):eo=0∧en=0∧es=⟨#[]⟩∧em=0:=by
 obtain⟨A,c,e⟩:=eA.1 h;simp only[List.cons.injEq,Value.int.injEq,Value.string.injEq,Value.slice.injEq,and_true,true_and] at e;exact⟨e.1,e.2.1,e.2.2.1,e.2.2.2.2.1⟩
theorem gm{A:GR}{n c:Nat}(h:(nT none).rep w P [.string s,.slice A n c]):s=⟨#[]⟩∧n=0:=by
 unfold nT ff at h;rw[bw,ca] at h;obtain⟨y,e,h⟩:=h;injection e with e1 e2;injection e1 with e1;subst e2;obtain⟨az,L,aG,bu,e,_,hs,J⟩:=aJ.1 h;injection e with e2 e3;injection e2 with _ e2 _;exact⟨e1,by rw[e2];exact hs.1.symm⟩
theorem An(h:(fQ (.mx r)).rep w P cs):∃s A n c EA ec,cs=[.bool true,.string s,.slice A n c,.int .i64 0,.int .i64 0,.string ⟨#[]⟩,.slice EA 0 ec]∧(jB r).rep w P [.string s,.slice A n c]:=by
 exact Df
namespace y5
theorem sB(h:p:=by
 obtain⟨A,n,c,aR,rfl,_,hs,bv⟩:=aJ.1 hx;rw[aM] at bv;subst bv;obtain rfl:n=0:=hs.1.symm;exact wm
 ):p:=h
end y5
open y5 in
theorem Am{e:VE}(h:(fQ (.ex e)).rep w P cs):∃bH rc op n s A m c,cs=[.bool false,.string ⟨#[]⟩,.slice bH 0 rc,.int .i64 op,.int .i64 n,.string s,.slice A m c]∧(a4 e).rep w P [.int .i64 op,.int .i64 n,.string s,.slice A m c]:=by
 exact sA
theorem g5(h:br s.data.toList=true):s.size≤1000000:=by
 have:=dX h;have J:s.size=s.data.toList.length:=rfl;omega
def CP(b:aj):Prop:=∀(d deep:Nat) (A:GR) (n c:Nat) (w:World),fG d b→b.num≤1000000→deep+d≤23→Sl w (au w) A n (cL b)→
 Calls prog 103 #[.slice A n c,.int .i64 deep] w fun e ab=>e=.returned (.bool true)∧Ext w ab
namespace y6
theorem xo(h:p:=by
 have z:=ae S.o;have R:=ae (bh.trans F);have m:=ae F;have x:=ae aT;obtain⟨a0,al,af⟩:=aT.two;clear bg F aT a6 ca aP cx dd de dm dn ee ef dj S aN
 cases s with
 | set v nm e=>
  obtain⟨I,hex⟩:=an.o;have ax:=ae (show iD nm=true from I);have bN:=g5 (show br nm.data.toList=true from I);have be:=ae hex;obtain⟨rfl,rfl⟩:=gm z.ref;obtain rfl:0=n1:=z.args.1;obtain rfl:0=bl:=z.th.1;obtain rfl:0=cn:=z.el.1;clear I hex;simp only[ay.kind,ay.name] at *;cases v
  all_goals as_aux_lemma=>
   simp only[GL,if_false,if_true] at *;go_wp2_with (fail);refine(gf nm _ bN).mono ?_;rintro e aE ⟨rfl,he⟩;have bp:=ae (R.trans he);have l:=ae (m.trans he);have G:=ae (x.al he);clear he a0 al af R m x;obtain⟨a0,al,af⟩:=G.two;rw[ax.o];go_wp2_with (fail);refine(eK e be.o _ _ _ _ _ _ _ (D.on z.expr (Fr.ext l.o))).mono ?_;rintro e aG ⟨rfl,he⟩;have aW:=ae (bp.trans he);have q:=ae (l.trans he);have bk:=ae (G.al he);clear he a0 al af bp l G;obtain⟨a0,al,af⟩:=bk.two;go_wp2_with (fail);refine(fV _ _ _).mono ?_;rintro e aQ ⟨rfl,he⟩;have b6:=ae (aW.trans he);have y:=ae (q.trans he);have bK:=ae (bk.al he);clear he a0 al af aW q bk;obtain⟨a0,al,af⟩:=bK.two;go_wp2;refine wp_loop_rounds 1 ?_;rw[rounds_succ]
   exact uj
 | call g nm aO=>
  obtain⟨I,P,hlen⟩:=an.o;have ax:=ae (show iD nm=true from I);have bN:=g5 (show br nm.data.toList=true from I);obtain⟨rfl,rfl,rfl,rfl⟩:=jN z.expr;obtain⟨rfl,rfl⟩:=gm z.ref;have az:=ae P;have cN:n1≤1000:=by have:=z.args.1;rw[Gf] at this;simp only[ay.args] at this;omega
  obtain rfl:0=bl:=z.th.1;obtain rfl:0=cn:=z.el.1;clear I P hlen;simp only[ay.kind,ay.name] at *;cases g
  all_goals as_aux_lemma=>
   simp only[GL,if_false,if_true] at *;go_wp2_with (fail);refine(gf nm _ bN).mono ?_;rintro e aE ⟨rfl,he⟩;have bp:=ae (R.trans he);have l:=ae (m.trans he);have G:=ae (x.al he);clear he a0 al af R m x;obtain⟨a0,al,af⟩:=G.two;rw[ax.o];go_wp2_with (fail);refine(hT _ _ _).mono ?_;rintro e aG ⟨rfl,he⟩;have aW:=ae (bp.trans he);have q:=ae (l.trans he);have bk:=ae (G.al he);clear he a0 al af bp l G;obtain⟨a0,al,af⟩:=bk.two;go_wp2_with (fail);refine(fV _ _ _).mono ?_;rintro e aQ ⟨rfl,he⟩;have b6:=ae (aW.trans he);have y:=ae (q.trans he);have bK:=ae (bk.al he);clear he a0 al af aW q bk;obtain⟨a0,al,af⟩:=bK.two;go_wp2;have aU:=ae (show Sl wr (au wr) cC n1 (aO.map fQ) from z.args);go_loopw [12] (fun bf bX=>∃j:Nat,j≤n1∧bf=.int .i64 j∧Ext w bX∧Ext wr bX∧ag bX wr.heap.size 175 _) (fun bf _=>n1 - (intOf bf).toNat)
   case atStart=>exact⟨0,ad,rfl,b6.o,y.o,bK.o⟩
   case round=>
    obtain⟨j,ba,rfl,av,aA,aT⟩:=hrel;clear b6 y bK a0 al af;have b6:=ae av;have y:=ae aA;have bK:=ae aT;obtain⟨a0,al,af⟩:=aT.two;by_cases ak:j<n1
    ·obtain⟨ab,dB,a,cs,rfl,aC,Q,T,aH,f⟩:=(aU.on (Fr.ext aA)).fJ mZ ak;have a9:ab<wr.heap.size:=aC;have aR:=ae (az.o a (Ge Q))
     cases a with
     | mx r=>
      obtain⟨aM,aX,bm,ac,bd,bj,rfl,H⟩:=An T;have fn:=f 0 _ rfl;have aF:=f 1 _ rfl;have eL:=f 2 _ rfl;have cv:=f 3 _ rfl;have da:=f 4 _ rfl;have cB:=f 5 _ rfl;have aJ:=f 6 _ rfl;simp only[Gl] at fn;have U:=ae H;clear f T H Q aH aC av aA aT;go_upto_region 17 with(fail);generalize hV:World.alloc _ _=V;have t:Ext wr V:=hV▸GN.alloc _;have hC:ag V wr.heap.size 209 #[.bool true,.string aM,.slice aX bm ac,.int .i64 0,.int .i64 0,.string ⟨#[]⟩,.slice bd 0 bj]:=hV▸GO;have cu:=ae (b6.trans t);have ah:=ae (y.trans t);have b7:=ae (bK.al t);have aq:=ae (D.on U.o (Fr.ext t));have bs:=ae hC;clear t hC hV a0 al af b6 y bK U fn aF eL cv da cB aJ a9;obtain⟨a0,al,af⟩:=bs.two;go_wp2_with (fail);refine(pD r aR.o _ _ _ _ _ aq.o).mono ?_;rintro a7 a5 ⟨rfl,Y⟩;have X:=ae (cu.trans Y);have aL:=ae (ah.trans Y);have L:=ae (b7.al Y);have bs:=ae (bs.al Y);clear a0 al af cu ah b7;obtain⟨a0,al,af⟩:=bs.two;go_wp2_with (fail);refine(hT _ _ _).mono ?_
      exact Da
     | ex e=>
      obtain⟨bi,a3,B,a2,aM,aX,am,ac,rfl,H⟩:=Am T;have fn:=f 0 _ rfl;have aF:=f 1 _ rfl;have eL:=f 2 _ rfl;have cv:=f 3 _ rfl;have da:=f 4 _ rfl;have cB:=f 5 _ rfl;have aJ:=f 6 _ rfl;simp only[Gl] at fn;have U:=ae H;clear f T H Q aH aC av aA aT;go_upto_region 17 with(fail);generalize hV:World.alloc _ _=V;have t:Ext wr V:=hV▸GN.alloc _;have hC:ag V wr.heap.size 209 #[.bool false,.string ⟨#[]⟩,.slice bi 0 a3,.int .i64 B,.int .i64 a2,.string aM,.slice aX am ac]:=hV▸GO;have cu:=ae (b6.trans t);have ah:=ae (y.trans t);have b7:=ae (bK.al t);have aq:=ae (D.on U.o (Fr.ext t));have bs:=ae hC;clear t hC hV a0 al af b6 y bK U fn aF eL cv da cB aJ a9;obtain⟨a0,al,af⟩:=bs.two;go_wp2_with (fail);refine(fV _ _ _).mono ?_;rintro a7 a5 ⟨rfl,Y⟩;have X:=ae (cu.trans Y);have aL:=ae (ah.trans Y);have L:=ae (b7.al Y);have bs:=ae (bs.al Y);clear a0 al af cu ah b7;obtain⟨a0,al,af⟩:=bs.two;go_wp2_with (fail);refine(eK e aR.o _ _ _ _ _ _ _ (D.on aq.o (Fr.ext Y))).mono ?_;exact Da
    ·obtain rfl:j=n1:=ad;clear av aA aT
     exact uj
 | lock u r=>
  obtain⟨rfl,rfl,rfl,rfl⟩:=jN z.expr;obtain rfl:0=n1:=z.args.1;obtain rfl:0=bl:=z.th.1;obtain rfl:0=cn:=z.el.1;have aZ:=ae (show mT r from an.o);simp only[ay.kind,ay.name] at *;cases u
  all_goals as_aux_lemma=>
   simp only[GL,if_false,if_true] at *;go_wp2_with (fail);refine(hT _ _ _).mono ?_;rintro e aE ⟨rfl,he⟩;have bp:=ae (R.trans he);have l:=ae (m.trans he);have G:=ae (x.al he);clear he a0 al af R m x;obtain⟨a0,al,af⟩:=G.two;go_wp2_with (fail);refine(pD r aZ.o _ _ _ _ _ (D.on z.ref (Fr.ext l.o))).mono ?_
   exact Db
 | ite e th el=>
  obtain⟨hex,cm,bF,M,J⟩:=an.o;have be:=ae hex;have ai:=ae M;have aw:=ae J;have aa:=ae (show deep+1+cm≤23 by have:=c6.o;omega);obtain⟨rfl,rfl⟩:=gm z.ref;obtain rfl:0=n1:=z.args.1;clear hex M J bF;simp only[ay.kind,ay.name] at *;as_aux_lemma=>
   go_wp2_with (fail);refine(eK e be.o _ _ _ _ _ _ _ (D.on z.expr (Fr.ext m.o))).mono ?_;rintro e aE ⟨rfl,he⟩;have bp:=ae (R.trans he);have l:=ae (m.trans he);have G:=ae (x.al he);clear he a0 al af R m x;obtain⟨a0,al,af⟩:=G.two;go_wp2_with (fail);refine(fV _ _ _).mono ?_;rintro e aG ⟨rfl,he⟩;have aW:=ae (bp.trans he);have q:=ae (l.trans he);have bk:=ae (G.al he);clear he a0 al af bp l G;obtain⟨a0,al,af⟩:=bk.two;go_wp2;refine wp_loop_rounds 1 ?_;rw[rounds_succ];go_wp2_with (fail);refine((show CP th from aI.1) cm (deep+1) _ _ _ _ ai.o (Gu (Nat.le_add_right _ _) i.o) aa.o (z.th.on (Fr.ext q.o))).mono ?_;rintro e aQ ⟨rfl,he⟩;have b6:=ae (aW.trans he);have y:=ae (q.trans he);have bK:=ae (bk.al he);clear he a0 al af aW q bk;obtain⟨a0,al,af⟩:=bK.two;by_cases aS:cn=0
   ·subst aS;exact uj
   ·have cT:decide ((cn:Int) > 0)=true:=by simp;omega
    go_wp2_with (fail);refine((show CP el from aI.2) cm (deep+1) _ _ _ _ aw.o (Gu (Nat.le_add_left _ _) i.o) aa.o (z.el.on (Fr.ext y.o))).mono ?_;rintro e bn ⟨rfl,he⟩;have cu:=ae (b6.trans he);have ah:=ae (y.trans he);have b7:=ae (bK.al he);clear he a0 al af b6 y bK;obtain⟨a0,al,af⟩:=b7.two;go_wp2;go_roundw
    case rel=>exact⟨k+1,ad,by go_num,cu.o⟩
    case measure=>simp[intOf];omega
 | fj e th=>
  obtain⟨hex,cm,bF,M⟩:=an.o;have be:=ae hex;have ai:=ae M;have aa:=ae (show deep+1+cm≤23 by have:=c6.o;omega);obtain⟨rfl,rfl⟩:=gm z.ref;obtain rfl:0=n1:=z.args.1;obtain rfl:0=cn:=z.el.1;clear hex M bF;simp only[ay.kind,ay.name] at *;as_aux_lemma=>
   go_wp2_with (fail);refine(eK e be.o _ _ _ _ _ _ _ (D.on z.expr (Fr.ext m.o))).mono ?_;rintro e aE ⟨rfl,he⟩;have bp:=ae (R.trans he);have l:=ae (m.trans he);have G:=ae (x.al he);clear he a0 al af R m x;obtain⟨a0,al,af⟩:=G.two;go_wp2_with (fail);refine(fV _ _ _).mono ?_;rintro e aG ⟨rfl,he⟩;have aW:=ae (bp.trans he);have q:=ae (l.trans he);have bk:=ae (G.al he);clear he a0 al af bp l G;obtain⟨a0,al,af⟩:=bk.two;go_wp2;refine wp_loop_rounds 1 ?_;rw[rounds_succ];go_wp2_with (fail);refine((show CP th from aI.1) cm (deep+1) _ _ _ _ ai.o (Gu (Nat.le_add_right _ _) i.o) aa.o (z.th.on (Fr.ext q.o))).mono ?_;rintro e aQ ⟨rfl,he⟩;have b6:=ae (aW.trans he);have y:=ae (q.trans he);have bK:=ae (bk.al he);clear he a0 al af aW q bk;obtain⟨a0,al,af⟩:=bK.two
   exact uj
 | ret=>
  obtain⟨rfl,rfl,rfl,rfl⟩:=jN z.expr;obtain⟨rfl,rfl⟩:=gm z.ref;obtain rfl:0=n1:=z.args.1;obtain rfl:0=bl:=z.th.1;obtain rfl:0=cn:=z.el.1;simp only[ay.kind,ay.name] at *;as_aux_lemma=>
   go_wp2_with (fail);refine(hT _ _ _).mono ?_;rintro e aE ⟨rfl,he⟩;have bp:=ae (R.trans he);have l:=ae (m.trans he);have G:=ae (x.al he);clear he a0 al af R m x;obtain⟨a0,al,af⟩:=G.two;go_wp2_with (fail);refine(fV _ _ _).mono ?_;exact Db
 ):p:=h
theorem wO(h:p:=by
 have S:=ae Q;clear Z cF Q b8 a1 O;exact xn
 ):p:=h
end y6
open y6 in
theorem qt(b:aj)(C:∀s∈b.list,CP s.th∧CP s.el):CP b:=by
 intro d deep A n c w ch K aD hs;have hl:b.list.length=n:=by rw[←hs.1,cq,Gf]
 have hn:n≤1000000:=by have:=ep b;omega
 have bc:deep≤23:=ad;have a4:decide ((deep:Int)≥24)=false:=by simp;omega
 rw[cq] at hs;have a8:=ae hs;have aB:=ae C;have bw:=ae (fX b d ch);have aV:=ae (fun s (hs:s∈b.list)=>Gu (Nat.le_of_lt (hA b s hs)) K);have c6:=ae aD;clear hs C ch K hl aD;go_enter func103,ntmps103;go_wp2;go_loopw [5] (fun E wr=>∃k:Nat,k≤n∧E=.int .i64 k∧Ext w wr) (fun E _=>n - (intOf E).toNat)
 case atStart=>exact⟨0,ad,rfl,GN⟩
 case round=>
  obtain⟨k,ap,rfl,av⟩:=hrel;have bh:=ae av;clear av a4;by_cases ao:k<n
  ·obtain⟨bb,o,s,cs,rfl,O,b8,cF,a1,Z⟩:=(a8.on (Fr.ext bh.o)).fJ lW ao;have aN:bb<wr.heap.size:=O;have an:=ae (bw.o s (Ge b8));have aI:=ae (aB.o s (Ge b8));have i:=ae (aV.o s (Ge b8));obtain⟨eo,en,es,EA,em,ec,rs,bH,bC,rc,cC,n1,c1,A2,bl,c2,cl,cn,c3,rfl,Q⟩:=kd cF;exact wN
  ·obtain rfl:k=n:=ad;go_wp2;go_ret;exact⟨rfl,bh.o⟩
theorem rz(b:aj):CP b:=aj.Ae qt b
end Go.Proofs.YtjhgbdckgkppnaaGreat

/- Part 12 of the proof. No condition of its own. -/
import Derived.Test.YtnhhdaggkiomoaaGreatQ11
namespace Go.Proofs.YtnhhdaggkiomoaaGreat
open Go.RowKit Go.Proofs.Tryz
set_option maxRecDepth 1000000
set_option maxHeartbeats 25600000
set_option linter.unusedVariables false
variable{s:ByteArray}{cs:List Value}{k:Nat}{P:Nat→Prop}{p:Prop}{α:Type}{w:World}{r:eO}
theorem an.Dl{C:an→Prop}(f:∀b:an,(∀s∈b.list,C s.th∧C s.el)→C b):∀b:an,C b:=by
 have c:C .nil:=f .nil fun s hs=>by simp[an.list] at hs
 have fin:∀b:an,(∀s∈b.list,C s.th∧C s.el)→C b∧∀s∈b.list,C s.th∧C s.el:=fun b h=>⟨f b h,h⟩
 suffices h:∀b:an,C b∧∀s∈b.list,C s.th∧C s.el from fun b=>(h b).1
 intro b
 induction b with
 | nil=>exact fin _ fun s hs=>by simp[an.list] at hs
 | set v n e rest ao=>
  exact xj
 | call g n a1 rest ao=>
  exact xj
 | lock u r rest ao=>
  exact xj
 | ite e th el rest j o ao=>
  refine fin _ fun s hs=>?_;rcases KW.1 hs with rfl|hs
  ·exact⟨j.1,o.1⟩
  ·exact ao.2 s hs
 | gv e th rest j ao=>
  refine fin _ fun s hs=>?_;rcases KW.1 hs with rfl|hs
  ·exact⟨j.1,c⟩
  ·exact ao.2 s hs
 | ret rest ao=>
  exact xj
theorem iE:∀(b:an) (s:aA),s∈b.list→s.th.num+s.el.num<b.num
 | .nil,s,h=>by simp[an.list] at h
 | .set v n e rest,s,h=>by
  rcases KW.1 h with rfl|h
  ·simp[aA.th,aA.el,an.num]
  ·have:=iE rest s h;simp only[an.num];omega
 | .call g n a1 rest,s,h=>by
  rcases KW.1 h with rfl|h
  ·simp[aA.th,aA.el,an.num]
  ·have:=iE rest s h;simp only[an.num];omega
 | .lock u r rest,s,h=>by
  rcases KW.1 h with rfl|h
  ·simp[aA.th,aA.el,an.num]
  ·have:=iE rest s h;simp only[an.num];omega
 | .ite e th el rest,s,h=>by
  rcases KW.1 h with rfl|h
  ·simp only[aA.th,aA.el,an.num];omega
  ·have:=iE rest s h;simp only[an.num];omega
 | .gv e th rest,s,h=>by
  rcases KW.1 h with rfl|h
  ·simp only[aA.th,aA.el,an.num];omega
  ·have:=iE rest s h;simp only[an.num];omega
 | .ret rest,s,h=>by
  rcases KW.1 h with rfl|h
  ·simp[aA.th,aA.el,an.num]
  ·have:=iE rest s h;simp only[an.num];omega
def wk(e:VE):Prop:=∃N d,dJ N∧d≤12∧e.src N d
def ov(r:eO):Prop:=bF r.name.data.toList=true∧∀e,r.idx=some e→wk e
def uc:dn→Prop
 | .mx r=>ov r
 | .ex e=>wk e
def gz:Nat→an→Prop
 | _,.nil=>True
 | d,.set _ n e rest=>bF n.data.toList=true∧wk e∧gz d rest
 | d,.call _ n a1 rest=>(bF n.data.toList=true∧(∀a∈a1,uc a)∧a1.length≤1000)∧gz d rest
 | d,.lock _ r rest=>ov r∧gz d rest
 | 0,.ite ..=>False
 | 0,.gv ..=>False
 | d+1,.ite e th el rest=>wk e∧gz d th∧gz d el∧gz (d+1) rest
 | d+1,.gv e th rest=>wk e∧gz d th∧gz (d+1) rest
 | d,.ret rest=>gz d rest
def Jo(d:Nat):aA→Prop
 | .set _ n e=>bF n.data.toList=true∧wk e
 | .call _ n a1=>bF n.data.toList=true∧(∀a∈a1,uc a)∧a1.length≤1000
 | .lock _ r=>ov r
 | .ite e th el=>wk e∧∃k,d=k+1∧gz k th∧gz k el
 | .gv e th=>wk e∧∃k,d=k+1∧gz k th
 | .ret=>True
theorem gN:∀(b:an) (d:Nat),gz d b→∀s∈b.list,Jo d s
 | .nil,d,_,s,hs=>by simp[an.list] at hs
 | .set v n e rest,d,h,s,hs=>by
  have F:bF n.data.toList=true∧wk e∧gz d rest:=by cases d<;>exact h
  rcases KW.1 hs with rfl|hs
  ·exact⟨F.1,F.2.1⟩
  ·exact gN rest d F.2.2 s hs
 | .call g n a1 rest,d,h,s,hs=>by
  have F:(bF n.data.toList=true∧(∀a∈a1,uc a)∧a1.length≤1000)∧gz d rest:=by cases d<;>exact h
  rcases KW.1 hs with rfl|hs
  ·exact F.1
  ·exact gN rest d F.2 s hs
 | .lock u r rest,d,h,s,hs=>by
  have F:ov r∧gz d rest:=by cases d<;>exact h
  rcases KW.1 hs with rfl|hs
  ·exact F.1
  ·exact gN rest d F.2 s hs
 | .ite e th el rest,0,h,s,hs=>h.elim
 | .gv e th rest,0,h,s,hs=>h.elim
 | .ite e th el rest,d+1,h,s,hs=>by
  rcases KW.1 hs with rfl|hs
  ·exact⟨h.1,d,rfl,h.2.1,h.2.2.1⟩
  ·exact gN rest (d+1) h.2.2.2 s hs
 | .gv e th rest,d+1,h,s,hs=>by
  rcases KW.1 hs with rfl|hs
  ·exact⟨h.1,d,rfl,h.2.1⟩
  ·exact gN rest (d+1) h.2.2 s hs
 | .ret rest,d,h,s,hs=>by
  have F:gz d rest:=by cases d<;>exact h
  rcases KW.1 hs with rfl|hs
  ·trivial
  ·exact gN rest d F s hs
theorem ov.src(h:ov r):Et r:=fun e he=>by
 obtain⟨N,d,_,_,hs⟩:=h.2 e he;exact⟨N,d,hs⟩
theorem uc.src{a:dn}(h:uc a):FM a:=by
 cases a with
 | mx r=>exact ov.src h
 | ex e=>
  obtain⟨N,d,_,_,hs⟩:=h;exact⟨N,d,hs⟩
theorem wk.src{e:VE}(h:wk e):∃N d,e.src N d:=by
 obtain⟨N,d,_,_,hs⟩:=h;exact⟨N,d,hs⟩
theorem ji:∀(b:an) (d:Nat),gz d b→nC b
 | .nil,_,_=>trivial
 | .set v n e rest,d,h=>by
  have F:bF n.data.toList=true∧wk e∧gz d rest:=by cases d<;>exact h
  exact⟨F.2.1.src,ji rest d F.2.2⟩
 | .call g n a1 rest,d,h=>by
  have F:(bF n.data.toList=true∧(∀a∈a1,uc a)∧a1.length≤1000)∧gz d rest:=by cases d<;>exact h
  exact⟨⟨fun a bx=>(F.1.2.1 a bx).src,F.1.2.2⟩,ji rest d F.2⟩
 | .lock u r rest,d,h=>by
  have F:ov r∧gz d rest:=by cases d<;>exact h
  exact⟨F.1.src,ji rest d F.2⟩
 | .ite e th el rest,0,h=>h.elim
 | .gv e th rest,0,h=>h.elim
 | .ite e th el rest,d+1,h=>⟨h.1.src,ji th d h.2.1,ji el d h.2.2.1,ji rest (d+1) h.2.2.2⟩
 | .gv e th rest,d+1,h=>⟨h.1.src,ji th d h.2.1,ji rest (d+1) h.2.2⟩
 | .ret rest,d,h=>by
  have F:gz d rest:=by cases d<;>exact h
  exact ji rest d F
theorem EG{G:Env}(hG:nK G){V:Lt}(hV:dJ V)(h:rX G V r):ov r:=by
 rcases h with⟨m,hm,hn,ac,av⟩|⟨hp,an⟩
 ·refine⟨by rw[←hn];exact hG.af m hm,fun e he=>?_⟩;by_cases hs:0<m.size
  ·obtain⟨x,hx,ay⟩:=ac hs;rw[hx] at he;injection he with he;subst he;exact⟨V,2,hV,ad,ay⟩
  ·rw[av hs] at he;cases he
 ·refine⟨hG.params _ hp,fun e he=>?_⟩;rw[an] at he;cases he
theorem x2{G:Env}(hG:nK G){V:Lt}(hV:dJ V):∀(ps:List (ByteArray×Bool)) (a1:List dn),iN G V ps a1→(∀a∈a1,uc a)∧a1.length=ps.length
 | [],[],_=>⟨fun a h=>by simp at h,rfl⟩
 | p::ps,a::a1,h=>by
  obtain⟨j,o⟩:=x2 hG hV ps a1 h.2;refine⟨fun x hx=>?_,by simp[o]⟩;rcases KW.1 hx with rfl|hx
  ·cases x with
   | mx r=>exact EG hG hV h.1.2
   | ex e=>exact⟨V,2,hV,ad,h.1.2⟩
  ·exact j x hx
 | [],_::_,h=>h.elim
 | _::_,[],h=>h.elim
theorem ki{G:Env}(hG:nK G):∀(b:an) (d:Nat) (V T:Lt),dJ V→e4 G d V T b→gz d b
 | .nil,d,V,T,hV,h=>by cases d<;>trivial
 | .set true n e rest,d,V,T,hV,h=>by
  have F:bF n.data.toList=true∧n∉T∧e.src V 2∧e4 G d (V++[n]) (T++[n]) rest:=by cases d<;>exact h
  have ao:=ki hG rest d _ _ (jZ hV F.1) F.2.2.2;have r:bF n.data.toList=true∧wk e∧gz d rest:=⟨F.1,⟨V,2,hV,ad,F.2.2.1⟩,ao⟩
  cases d<;>exact r
 | .set false n e rest,d,V,T,hV,h=>by
  have F:n∈V∧e.src V 2∧e4 G d V T rest:=by cases d<;>exact h
  have ao:=ki hG rest d _ _ hV F.2.2;have r:bF n.data.toList=true∧wk e∧gz d rest:=⟨hV n F.1,⟨V,2,hV,ad,F.2.1⟩,ao⟩
  cases d<;>exact r
 | .call g n a1 rest,d,V,T,hV,h=>by
  have F:(∃ps,(n,ps)∈G.funcs∧iN G V ps a1)∧e4 G d V T rest:=by cases d<;>exact h
  have ao:=ki hG rest d _ _ hV F.2;obtain⟨ps,cA,aK⟩:=F.1;obtain⟨q,y⟩:=x2 hG hV ps a1 aK;have J:=hG.funcs _ cA;have hle:a1.length≤1000:=by have:=J.2;simp only[] at this;omega
  have r:(bF n.data.toList=true∧(∀a∈a1,uc a)∧a1.length≤1000)∧gz d rest:=⟨⟨J.1,q,hle⟩,ao⟩
  cases d<;>exact r
 | .lock u r rest,d,V,T,hV,h=>by
  have F:rX G V r∧e4 G d V T rest:=by cases d<;>exact h
  have ao:=ki hG rest d _ _ hV F.2;have r:ov r∧gz d rest:=⟨EG hG hV F.1,ao⟩
  cases d<;>exact r
 | .ite e th el rest,0,V,T,hV,h=>h.elim
 | .gv e th rest,0,V,T,hV,h=>h.elim
 | .ite e th el rest,d+1,V,T,hV,h=>⟨⟨V,2,hV,ad,h.1⟩,ki hG th d V T hV h.2.1,ki hG el d V T hV h.2.2.1,ki hG rest (d+1) V T hV h.2.2.2⟩
 | .gv e th rest,d+1,V,T,hV,h=>⟨⟨V,2,hV,ad,h.1⟩,ki hG th d V T hV h.2.1,ki hG rest (d+1) V T hV h.2.2⟩
 | .ret rest,d,V,T,hV,h=>by
  have F:e4 G d V T rest:=by cases d<;>exact h
  have ao:=ki hG rest d _ _ hV F;cases d<;>exact ao
def hY(g:ByteArray×Int):List UInt8:=aV (hz g)
def kf(m:bI):List UInt8:=aV (hA m)
def kd(f:aK):List UInt8:=aV (hy f)
def ha(l:List (ByteArray×Bool)):List UInt8:=aV (dX (l.map gG))
theorem DJ(g:ByteArray×Int):hY g=[118,97,114,32]++(g.1.data.toList++((if g.2=0 then [] else [32,61,32]++aV (hB g.2))++[59,10])):=by
 unfold hY hz;split
 ·simp[aV,Atom.bytes,kw]
 ·simp only[a5,bf,KV];simp[aV,Atom.bytes,kw]
theorem DW(m:bI):kf m=(if m.re then [114] else [])++([109,117,116,101,120,32]++(m.name.data.toList++((if 0<m.size then [91]++(aV (hB m.size)++[93]) else [])++[59,10]))):=by
 unfold kf hA;by_cases h:0<m.size
 ·cases m.re<;>simp[h,aV,Atom.bytes,kw,fM]
 ·cases m.re<;>simp[h,aV,Atom.bytes,kw,fM]
theorem qp{l:List (ByteArray×Bool)}{q:ByteArray×Bool}(h:l[k]?=some q):ha (l.take (k+1))=ha (l.take k)++((if 0<k then [44,32] else [])++((if q.2 then [109,117,116,101,120,32] else [])++q.1.data.toList)):=by
 have ap:k<l.length:=(List.getElem?_eq_some_iff.1 h).1;have bK:aV (gG q)=(if q.2 then [109,117,116,101,120,32] else [])++q.1.data.toList:=by
  unfold gG;split<;>simp[aV,Atom.bytes,kw,fM]
 unfold ha;rw[List.take_add_one,h,KN];show aV (dX (List.map gG (List.take k l)++[gG q]))=_
 rw[lW];by_cases h0:0<k
 ·rw[if_neg (by intro e;have:=congrArg List.length e;simp only[KK,List.length_take,KZ] at this;omega),if_pos h0,bf,a5,a5,bK];simp[Atom.bytes]
 ·obtain rfl:k=0:=ad;simp[dX,aV,←bK]
theorem DB(f:aK):kd f=[102,117,110,99,32]++(f.name.data.toList++([40]++(ha f.params++([41,32,123,10]++(cD 1 f.body++[125,10]))))):=by
 unfold kd hy ha cD;simp only[a5,bf];simp[aV,Atom.bytes,kw]
theorem lP(f:α→List Atom)(l:List α):aV (l.flatMap f)=(l.map fun x=>aV (f x)).flatten:=by
 induction l with
 | nil=>rfl
 | cons a l ao=>rw[Lb,bf,ao];simp
def fk{α:Type}(f:α→List UInt8)(l:List α):List UInt8:=(l.map f).flatten
theorem m5{f:α→List UInt8}{l:List α}{x:α}(h:l[k]?=some x):fk f (l.take (k+1))=fk f (l.take k)++f x:=by
 unfold fk;rw[List.take_add_one,h,KN,List.flatten_append];simp
theorem kN(f:α→List UInt8)(l:List α)(k:Nat):(fk f (l.take k)).length≤(fk f l).length:=by
 conv=>rhs;rw[←List.take_append_drop k l]
 unfold fk;rw[KN,List.flatten_append,KI];omega
theorem rN(p:bM):aV (fD p)=fk hY p.globals++(fk kf p.af++fk kd p.funcs):=by
 unfold fD;rw[bf,bf,lP,lP,lP];rfl
section
theorem iX(A:Ls)(c:Nat)(w:World):Calls prog 135 #[.agg #[.int .i64 0,.int .i64 0,.string ⟨#[]⟩,.slice A 0 c]] w fun e ab=>e=.returned (.bool true)∧Ext w ab:=by
 go_enter func135,ntmps135;exact vh
theorem gL(A:Ls)(c:Nat)(w:World):Calls prog 137 #[.agg #[.string ⟨#[]⟩,.slice A 0 c]] w fun e ab=>e=.returned (.bool true)∧Ext w ab:=by
 go_enter func137,ntmps137;exact vh
def r2(x:VE):Prop:=∀(op n:Int) (s:ByteArray) (A:Ls) (m c:Nat) (w:World),(bk x).rep w (au w) [.int .i64 op,.int .i64 n,.string s,.slice A m c]→
 Calls prog 154 #[.agg #[.int .i64 op,.int .i64 n,.string s,.slice A m c]] w fun e ab=>e=.returned (.bool true)∧Ext w ab
namespace BS
theorem pj(h:p:=by
 obtain⟨bm,cp⟩:=aI hs ao;clear a5 ao;go_enter func154,ntmps154;go_wp2_with(fail);generalize ba:World.alloc _ _=W;have aw:=aU ba;have aR:=aG ba;clear ba;refine(gq x.a9 W).mono ?_;rintro e aS ⟨rfl,ar⟩;have bq:=ae (aw.trans ar);have b2:=ae (aR.ai ar);obtain⟨a0,ai,af⟩:=(aR.ai ar).two;clear aw aR ar;have P:=hs.1;rw[KK] at P;clear hs;have key:∀(n0:Nat) (aM:x.args.length=n0),True:=fun _ _=>trivial;clear key
 cases x with
 | num n=>
  have hn:0≤n∧n<4611686018427387904:=by cases d<;>exact hx
  obtain rfl:0=m:=P;simp only[VE.a9,VE.numOf,VE.bu] at *;have cq:decide (n≥0)=true:=by simp;omega
  rw[show cW 1=6 by decide];clear hx bm cp hn;go_wp2;go_quiet (fail)
  go_wp2;refine wp_loop_rounds 1 ?_;rw[rounds_succ];go_wp2;go_ret
  exact⟨rfl,bq.drewN _⟩
 | g0 s=>
  have hs:s∈N:=by cases d<;>exact hx
  obtain rfl:0=m:=P;simp only[VE.a9,VE.numOf,VE.bu] at *;have aj:=ae (show jC s=true from hN s hs);have bW:s.size≤1000000:=by
   have:=eB (hN s hs);have av:s.size=s.data.toList.length:=rfl;omega
  rw[show cW 2=6 by decide];clear hx bm cp hs;go_wp2;refine eK (fun _=>False) [(0,3),(1,0),(2,3),(3,3),(4,3),(5,0),(6,3),(7,3),(8,3),(9,3),(10,0),(11,3),(12,3),(13,3),(14,0),(15,3),(16,3),(17,3),(18,0),(19,3),(20,3),(21,3),(22,3),(23,0),(24,1),(25,3),(26,3),(27,3)] ?_;refine pf ?_;refine ph ?_
  iterate 2 refine pf ?_
  refine dm rfl (by rfl) ?_
  try simp only[PU]
  refine ih rfl (by rfl) ?_
  try simp only[PU]
  refine dm rfl (by rfl) ?_
  try simp only[PU]
  iterate 2 refine pf ?_
  refine dm rfl (by rfl) ?_
  try simp only[PU]
  refine ih rfl (by rfl) ?_
  try simp only[PU]
  refine dm rfl (by rfl) ?_
  try simp only[PU]
  iterate 2 refine pf ?_
  refine ph ?_
  iterate 3 refine pf ?_
  refine ph ?_
  iterate 4 refine pf ?_
  refine ph ?_;refine aJ rfl (fun K hK=>?_);go_simp;refine(g6 s _ bW).mono ?_;rintro e aT ⟨rfl,bw⟩;rw[aj.o];refine dz hK (bw) ?_;clear hK K
  iterate 3 refine pf ?_
  refine aE ?_;have a4:=ae (bq.trans (Fr.aF bw));have bs:=(show aq aS w.heap.size 54 _ from b2.o).ai (Fr.aF bw);obtain⟨a8,am,aF⟩:=bs.two;clear bw a0 ai af bs;go_wp2;refine wp_loop_rounds 1 ?_;rw[rounds_succ];go_wp2;go_ret
  exact⟨rfl,a4.o⟩
 | loc j=>exact(by cases d<;>exact hx:False).elim
 | iC j=>exact(by cases d<;>exact hx:False).elim
 | un op y=>
  obtain rfl:1=m:=P
  have cy:op=3∨op=4:=by cases d with
   | zero=>exact hx.elim
   | succ d=>exact hx.1
  simp only[VE.a9,VE.numOf,VE.bu] at *;rw[show cW op=5 by rcases cy with rfl|rfl<;>decide];clear hx cy;go_wp2;go_loopw [6] (fun bd wr=>∃k:Nat,k≤1∧bd=.int .i64 k∧Ext w wr∧aq wr w.heap.size 54 #[.int .i64 op,.int .i64 0,.string ⟨#[]⟩,.slice A 1 c]) (fun bd _=>1 - (intOf bd).toNat)
  case atStart=>exact⟨0,ad,rfl,bq.o,b2.o⟩
  case round=>
   obtain⟨k,ap,rfl,aw,aR⟩:=hrel;clear bq b2 a0 ai af;obtain⟨bq,b2⟩:=aI aw aR;obtain⟨a0,ai,af⟩:=aR.two;by_cases ak:k<1
   ·obtain⟨b,o,z,cs,rfl,O,bb,Q,bp,Z⟩:=(bm.on (Fr.ext aw)).gZ c8 ak;clear aw aR
    match cs,bp with
    | [cE,cw,cG,b5],_=>
    exact Ge
   ·obtain rfl:k=1:=ad;clear aw aR;go_wp2;go_ret
    exact⟨rfl,bq.o⟩
 | bin op y z=>
  obtain rfl:2=m:=P
  have cy:5≤op∧op≤17:=by cases d with
   | zero=>exact hx.elim
   | succ d=>exact hx.1
  obtain⟨g,bh,f,_⟩:=uD cy;simp only[VE.a9,VE.numOf,VE.bu] at *;rw[f];have di:((g:Int) == 6)=false:=by simp;omega
  have q5:((g:Int) == 5)=false:=by simp;omega
  clear hx cy bh f;go_wp2;go_loopw [6] (fun bd wr=>∃k:Nat,k≤2∧bd=.int .i64 k∧Ext w wr∧aq wr w.heap.size 54 #[.int .i64 op,.int .i64 0,.string ⟨#[]⟩,.slice A 2 c]) (fun bd _=>2 - (intOf bd).toNat)
  case atStart=>exact⟨0,ad,rfl,bq.o,b2.o⟩
  case round=>
   obtain⟨k,ap,rfl,aw,aR⟩:=hrel;clear bq b2 a0 ai af di q5;obtain⟨bq,b2⟩:=aI aw aR;obtain⟨a0,ai,af⟩:=aR.two;by_cases ak:k<2
   ·obtain⟨b,o,z,cs,rfl,O,bb,Q,bp,Z⟩:=(bm.on (Fr.ext aw)).gZ c8 ak;clear aw aR
    match cs,bp with
    | [cE,cw,cG,b5],_=>
    exact Ge
   ·obtain rfl:k=2:=ad;clear aw aR;go_wp2;go_ret;exact⟨rfl,bq.o⟩
 ):p:=h
end BS
open BS in
theorem wF(N:Lt)(hN:dJ N)(d:Nat)(x:VE)(hx:x.src N d)(ao:∀(k:Nat) (y:VE),x.args[k]?=some y→r2 y):r2 x:=by
 intro op n s A m c w a5;exact pg
theorem FN{N:Lt}{C:VE→Nat→Prop}(f:∀(d:Nat) (x:VE),x.src N d→(∀(k:Nat) (y:VE),x.args[k]?=some y→∃e,d=e+1∧C y e)→C x d):∀(d:Nat) (x:VE),x.src N d→C x d:=by
 intro d
 induction d with
 | zero=>exact fun x hx=>f 0 x hx fun k y bb=>by rw[qC hx] at bb;simp at bb
 | succ d ao=>exact fun x hx=>f (d+1) x hx fun k y bb=>⟨d,rfl,ao y (qB hx bb)⟩
theorem yK(N:Lt)(hN:dJ N)(d:Nat)(x:VE)(hx:x.src N d):r2 x:=
 FN (C:=fun x _=>r2 x) (fun d x hx ao=>wF N hN d x hx fun k y bb=>by obtain⟨_,_,h⟩:=ao k y bb;exact h) d x hx
def rZ(x:VE)(d:Nat):Prop:=∀(op n:Int) (s:ByteArray) (A:Ls) (m c:Nat) (w:World),(bk x).rep w (au w) [.int .i64 op,.int .i64 n,.string s,.slice A m c]→
 Calls prog 155 #[.agg #[.int .i64 op,.int .i64 n,.string s,.slice A m c]] w fun e ab=>(∃h:Int,e=.returned (.int .i64 h)∧0≤h∧h≤2*d)∧Ext w ab
attribute [local go_sem ↓] gk gm
namespace BU
theorem pj(h:p:=by
 have al:m≤2:=by rw[←hs.1,KK];exact tA x
 have dE:m=x.args.length:=by rw[←hs.1,KK]
 obtain⟨cR,aQ,bm,cp⟩:=iS dE hx hs ao;clear a5 ao hs hx dE;go_enter func155,ntmps155;go_wp2;generalize ba:World.alloc _ _=W;have aw:=aU ba;have aR:=aG ba;clear ba;obtain⟨bq,b2⟩:=aI aw aR;clear aw aR;go_loopw [3,4] (fun bM bd wr=>∃(k:Nat) (h:Int),k≤m∧bd=.int .i64 k∧bM=.int .i64 h∧0≤h∧(h=0∨h+1≤2*d)∧Ext w wr∧aq wr w.heap.size 54 #[.int .i64 x.a9,.int .i64 x.numOf,.string x.bu,.slice A m c]) (fun _ bd _=>m - (intOf bd).toNat)
 case atStart=>exact⟨0,0,ad,rfl,rfl,ad,.inl rfl,bq.o,b2.o⟩
 case round=>
  obtain⟨k,h,ap,rfl,rfl,f,ah,aw,aR⟩:=hrel;clear bq b2;obtain⟨bq,b2⟩:=aI aw aR;obtain⟨a0,ai,af⟩:=aR.two;by_cases ak:k<m
  ·obtain⟨b,o,z,cs,rfl,O,bb,Q,bp,Z⟩:=(bm.on (Fr.ext aw)).gZ c8 ak;clear aw aR
   match cs,bp with
   | [cE,cw,cG,b5],_=>
   have c0:=Z 0 cE rfl;have c1:=Z 1 cw rfl;have c2:=Z 2 cG rfl;have c3:=Z 3 b5 rfl;simp only[KQ] at c0;have aX:b<wr.heap.size:=O;clear Z O;obtain⟨B,bG,bc,e,cv,b0⟩:=a1.1 Q;simp only[List.cons.injEq,and_true] at e;obtain⟨rfl,rfl,rfl,rfl⟩:=e;obtain⟨e0,R,hC⟩:=cp.o k z bb;obtain⟨bR,bC,H⟩:=eh hC bb Q;clear bb Q b0 hC;go_wp2_with(fail);refine(bR.o _ _ _ _ _ _ wr H.o).mono ?_;rintro e aT ⟨⟨av,rfl,g,i⟩,bw⟩;have a4:=ae (bq.trans bw);have cb:=ae (b2.ai bw);have d0:=(bw.cell (j:=o+k*4) aX (fun h=>h)).trans c0;have bg:b<aT.heap.size:=KH aX bw.size;have cf:k≤1:=ad;clear bw a0 ai af c0 c1 c2 c3 aX;obtain⟨a0,ai,af⟩:=cb.two;go_wp2_with(fail);refine(rE x.a9 x.numOf z.a9 x.bu b o m c k aT cf ak bg d0).mono ?_;rintro e b6 ⟨rfl,bV⟩;have a9:=ae (a4.trans bV);have a7:=ae (cb.ai bV);clear bV a0 ai af d0 bg;cases dD x.a9 z.a9 (k == 1)
   ·go_wp2;go_roundw
    case rel=>exact⟨k+1,max h av,ad,by go_num,rfl,ad,.inr ad,a9.o,a7.o⟩
    case measure=>exact aH
   ·go_wp2;go_roundw
    case rel=>exact⟨k+1,max h (av+1),ad,by go_num,rfl,ad,.inr ad,a9.o,a7.o⟩
    case measure=>exact aH
  ·obtain rfl:k=m:=ad;clear aw aR;have ci:decide ((k:Int)<(k:Int))=false:=by simp
   go_wp2_with(fail);refine(gq x.a9 wr).mono ?_;rintro e aT ⟨rfl,bw⟩;have a4:=ae (bq.trans bw);clear bw;by_cases cm:cW x.a9=5
   ·have O:h+1≤2*d:=by
     rcases ah with rfl|ah
     ·have:0<d:=by
       rcases Nat.eq_zero_or_pos d with h0|h0
       ·exfalso;subst h0;have ac:=aQ.o;cases x<;>first|exact ac.elim|exact absurd cm (show ¬cW 1=5 by decide)|exact absurd cm (show ¬cW 2=5 by decide)
       ·exact h0
      omega
     ·exact ah
    rw[cm];go_wp2;go_ret;exact⟨⟨h+1,rfl,ad,O⟩,a4.o⟩
   ·have q5:(cW x.a9 == 5)=false:=by simpa using cm
    go_wp2;go_ret;exact⟨⟨h,rfl,f,ad⟩,a4.o⟩
 ):p:=h
end BU
open BU in
theorem nT(N:Lt)(d:Nat)(hd:d≤1000)(x:VE)(hx:x.src N d)(ao:∀(k:Nat) (y:VE),x.args[k]?=some y→∃e,d=e+1∧rZ y e):rZ x d:=by
 intro op n s A m c w a5;exact pg
theorem vS(N:Lt):∀(d:Nat),d≤1000→∀(x:VE),x.src N d→rZ x d:=by
 intro d
 induction d with
 | zero=>exact fun hd x hx=>nT N 0 hd x hx fun k y bb=>by rw[qC hx] at bb;simp at bb
 | succ d ao=>exact fun hd x hx=>nT N (d+1) hd x hx fun k y bb=>⟨d,rfl,ao ad y (qB hx bb)⟩
theorem fy(x:VE)(hx:wk x)(op n:Int)(s:ByteArray)(A:Ls)(m c:Nat)(w:World)(a5:(bk x).rep w (au w) [.int .i64 op,.int .i64 n,.string s,.slice A m c]) :
  Calls prog 134 #[.agg #[.int .i64 op,.int .i64 n,.string s,.slice A m c]] w fun e ab=>e=.returned (.bool true)∧Ext w ab:=by
 obtain⟨N,d,hN,hd,hs⟩:=hx;have aW:=ae a5;have b:=ae (yK N hN d x hs);have a:=ae (vS N d ad x hs);clear a5 hs hN;go_enter func134,ntmps134;go_wp2_with(fail);generalize ba:World.alloc _ _=W;have aw:=aU ba;have aR:=aG ba;clear ba;refine(b.o _ _ _ _ _ _ W (D.on aW.o (Fr.ext aw))).mono ?_;rintro e aT ⟨rfl,bw⟩;have a4:=ae (aw.trans bw);obtain⟨a0,ai,af⟩:=(aR.ai bw).two;clear aw aR bw;go_wp2_with(fail);refine(a.o _ _ _ _ _ _ aT (D.on aW.o (Fr.ext a4.o))).mono ?_;rintro e b6 ⟨⟨h,rfl,h0,ac⟩,bV⟩;have a9:=ae (a4.trans bV);have q:decide (h≤24)=true:=by simp;omega
 clear bV a0 ai af;go_wp2;go_ret;exact⟨rfl,a9.o⟩
theorem rK(r:eO)(a5:ov r)(s:ByteArray)(A:Ls)(n c:Nat)(w:World)(h:(ky r).rep w (au w) [.string s,.slice A n c]) :
  Calls prog 136 #[.agg #[.string s,.slice A n c]] w fun e ab=>e=.returned (.bool true)∧Ext w ab:=by
 obtain⟨I,aP,aK,e,U,hs⟩:=jv.1 h;simp only[List.cons.injEq,Value.string.injEq,Value.slice.injEq,and_true] at e;obtain⟨rfl,rfl,rfl,rfl⟩:=e;have aj:=ae (show jC r.name=true from a5.1);have bW:r.name.size≤1000000:=by
  have:=eB a5.1;have av:r.name.size=r.name.data.toList.length:=rfl;omega
 obtain⟨cc,bm⟩:=aI a5.2 hs;clear h hs a5;go_enter func136,ntmps136;go_wp2_with(fail);generalize ba:World.alloc _ _=W;have aw:=aU ba;have aR:=aG ba;clear ba;refine(g6 r.name W bW).mono ?_;rintro e aT ⟨rfl,bw⟩;rw[aj.o];have a4:=ae (aw.trans bw);have cb:=ae (aR.ai bw);obtain⟨a0,ai,af⟩:=(aR.ai bw).two;clear aw aR bw
 cases an:r.idx with
 | none=>
  have h0:=bm.1;rw[an] at h0;obtain rfl:0=n:=h0;clear an;go_wp2;go_ret
  exact⟨rfl,a4.o⟩
 | some x=>
  have aQ:=ae (cc.o x an);have h0:=bm.on (Fr.ext a4.o);rw[an] at h0;obtain rfl:1=n:=h0.1;obtain⟨b,o,bs,Z,bv,E,rfl,O,aC,c0,c1,c2,c3⟩:=Sl.D2 h0 (c8 x);obtain⟨B,bG,bc,e,cv,b0⟩:=a1.1 aC;simp only[List.cons.injEq,and_true] at e;obtain⟨rfl,rfl,rfl,rfl⟩:=e;have aX:b<aT.heap.size:=O;have ak:=ae aC;clear an h0 b0 aC O cc bm;go_wp2_with(fail);refine(fy x aQ.o _ _ _ _ _ _ aT ak.o).mono ?_;rintro e b6 ⟨rfl,bV⟩;have a9:=ae (a4.trans bV);clear bV;go_wp2;go_ret;exact⟨rfl,a9.o⟩
end
theorem kM{eo en:Int}{es:ByteArray}{EA:Ls}{em ec:Nat}(h:(oq none).rep w P [.int .i64 eo,.int .i64 en,.string es,.slice EA em ec]):eo=0∧en=0∧es=⟨#[]⟩∧em=0:=by
 obtain⟨A,c,e⟩:=fh.1 h;simp only[List.cons.injEq,Value.int.injEq,Value.string.injEq,Value.slice.injEq,and_true,true_and] at e;exact⟨e.1,e.2.1,e.2.2.1,e.2.2.2.2.1⟩
theorem hh{A:Ls}{n c:Nat}(h:(pI none).rep w P [.string s,.slice A n c]):s=⟨#[]⟩∧n=0:=by
 unfold pI fU at h;rw[bK,cp] at h;obtain⟨y,e,h⟩:=h;injection e with e1 e2;injection e1 with e1;subst e2;obtain⟨I,aP,aK,cG,e,_,hs,av⟩:=aN.1 h;injection e with e2 e3;injection e2 with _ e2 _;exact⟨e1,by rw[e2];exact hs.1.symm⟩
theorem Dx(h:(gH (.mx r)).rep w P cs):∃s A n c EA ec,cs=[.bool true,.string s,.slice A n c,.int .i64 0,.int .i64 0,.string ⟨#[]⟩,.slice EA 0 ec]∧(ky r).rep w P [.string s,.slice A n c]:=by
 exact Gt
namespace BV
theorem vu(h:p:=by
 obtain⟨A,n,c,bo,rfl,_,hs,bt⟩:=aN.1 hx;rw[aP] at bt;subst bt;obtain rfl:n=0:=hs.1.symm;exact zq
 ):p:=h
end BV
open BV in
theorem Dv{e:VE}(h:(gH (.ex e)).rep w P cs):∃cc rc op n s A m c,cs=[.bool false,.string ⟨#[]⟩,.slice cc 0 rc,.int .i64 op,.int .i64 n,.string s,.slice A m c]∧(bk e).rep w P [.int .i64 op,.int .i64 n,.string s,.slice A m c]:=by
 exact vt
theorem ib(h:bF s.data.toList=true):s.size≤1000000:=by
 have:=eB h;have av:s.size=s.data.toList.length:=rfl;omega
def FY(b:an):Prop:=∀(d deep:Nat) (A:Ls) (n c:Nat) (w:World),gz d b→b.num≤1000000→deep+d≤23→Sl w (au w) A n (c5 b)→
 Calls prog 110 #[.slice A n c,.int .i64 deep] w fun e ab=>e=.returned (.bool true)∧Ext w ab
namespace BW
theorem vn(h:p:=by
 have M:=ae Q;clear Z dv Q co bp O;go_upto_region 7 with(fail);generalize ba:World.alloc wr _=W;have P:=aU ba;have aR:=aG ba;have z:=ae M.o;have E:=ae (bq.trans P);obtain⟨m,x⟩:=aI P aR;obtain⟨a0,ai,af⟩:=aR.two;clear ba P aR d0 d1 d2 d3 d4 d5 d6 d7 d8 d9 d10 M aX
 cases s with
 | set v nm e=>
  obtain⟨I,hex⟩:=ah.o;have aj:=ae (show jC nm=true from I);have bW:=ib (show bF nm.data.toList=true from I);have bf:=ae hex;obtain⟨rfl,rfl⟩:=hh z.ref;obtain rfl:0=n1:=z.args.1;obtain rfl:0=n2:=z.th.1;obtain rfl:0=n3:=z.el.1;clear I hex;simp only[aA.kind,aA.name] at *;cases v
  all_goals as_aux_lemma=>
   simp only[Lm,if_false,if_true] at *;go_wp2_with(fail);refine(g6 nm _ bW).mono ?_;rintro e aD ⟨rfl,he⟩;have bu:=ae (E.trans he);have l:=ae (m.trans he);have G:=ae (x.ai he);clear he a0 ai af E m x;obtain⟨a0,ai,af⟩:=G.two;rw[aj.o];go_wp2_with(fail);refine(fy e bf.o _ _ _ _ _ _ _ (D.on z.expr (Fr.ext l.o))).mono ?_;rintro e aE ⟨rfl,he⟩;have a4:=ae (bu.trans he);have q:=ae (l.trans he);have cb:=ae (G.ai he);clear he a0 ai af bu l G;obtain⟨a0,ai,af⟩:=cb.two;go_wp2_with(fail);refine(gL _ _ _).mono ?_;rintro e aO ⟨rfl,he⟩;have a9:=ae (a4.trans he);have y:=ae (q.trans he);have a7:=ae (cb.ai he);clear he a0 ai af a4 q cb;obtain⟨a0,ai,af⟩:=a7.two;go_wp2;refine wp_loop_rounds 1 ?_;rw[rounds_succ]
   exact xk
 | call g nm a1=>
  obtain⟨I,aK,hlen⟩:=ah.o;have aj:=ae (show jC nm=true from I);have bW:=ib (show bF nm.data.toList=true from I);obtain⟨rfl,rfl,rfl,rfl⟩:=kM z.expr;obtain⟨rfl,rfl⟩:=hh z.ref;have ao:=ae aK;have dg:n1≤1000:=by have:=z.args.1;rw[KK] at this;simp only[aA.args] at this;omega
  obtain rfl:0=n2:=z.th.1;obtain rfl:0=n3:=z.el.1;clear I aK hlen;simp only[aA.kind,aA.name] at *;cases g
  all_goals as_aux_lemma=>
   simp only[Lm,if_false,if_true] at *;go_wp2_with(fail);refine(g6 nm _ bW).mono ?_;rintro e aD ⟨rfl,he⟩;have bu:=ae (E.trans he);have l:=ae (m.trans he);have G:=ae (x.ai he);clear he a0 ai af E m x;obtain⟨a0,ai,af⟩:=G.two;rw[aj.o];go_wp2_with(fail);refine(iX _ _ _).mono ?_;rintro e aE ⟨rfl,he⟩;have a4:=ae (bu.trans he);have q:=ae (l.trans he);have cb:=ae (G.ai he);clear he a0 ai af bu l G;obtain⟨a0,ai,af⟩:=cb.two;go_wp2_with(fail);refine(gL _ _ _).mono ?_;rintro e aO ⟨rfl,he⟩;have a9:=ae (a4.trans he);have y:=ae (q.trans he);have a7:=ae (cb.ai he);clear he a0 ai af a4 q cb;obtain⟨a0,ai,af⟩:=a7.two;go_wp2;have aS:=ae (show Sl wr (au wr) bY n1 (a1.map gH) from z.args);go_loopw [12] (fun cI bC=>∃j:Nat,j≤n1∧cI=.int .i64 j∧Ext w bC∧Ext wr bC∧aq bC wr.heap.size 180 _) (fun cI _=>n1 - (intOf cI).toNat)
   case atStart=>exact⟨0,ad,rfl,a9.o,y.o,a7.o⟩
   case round=>
    obtain⟨j,bi,rfl,aw,av,aR⟩:=hrel;clear a9 y a7 a0 ai af;obtain⟨a9,y,a7⟩:=eh aw av aR;obtain⟨a0,ai,af⟩:=aR.two;by_cases X:j<n1
    ·obtain⟨ab,cP,a,cs,rfl,ax,Q,ag,aF,f⟩:=(aS.on (Fr.ext av)).gZ sI X;have ay:ab<wr.heap.size:=ax;have aQ:=ae (ao.o a (KJ Q))
     cases a with
     | mx r=>
      obtain⟨aZ,bc,bo,ac,bk,bn,rfl,aB⟩:=Dx ag;have f0:=f 0 _ rfl;have f1:=f 1 _ rfl;have f2:=f 2 _ rfl;have f3:=f 3 _ rfl;have f4:=f 4 _ rfl;have f5:=f 5 _ rfl;have f6:=f 6 _ rfl;simp only[KQ] at f0;have U:=ae aB;clear f ag aB Q aF ax aw av aR;go_upto_region 17 with(fail);generalize hV:World.alloc _ _=V;have L:=aU hV;have hC:=aG hV;have cj:=ae (a9.trans L);have aa:=ae (y.trans L);have T:=ae (a7.ai L);have al:=ae (D.on U.o (Fr.ext L));have bR:=ae hC;clear L hC hV a0 ai af a9 y a7 U f0 f1 f2 f3 f4 f5 f6 ay;obtain⟨a0,ai,af⟩:=bR.two;go_wp2_with(fail);refine(rK r aQ.o _ _ _ _ _ al.o).mono ?_;rintro a6 a5 ⟨rfl,R⟩;have F:=ae (cj.trans R);have aN:=ae (aa.trans R);have N:=ae (T.ai R);have bR:=ae (bR.ai R);clear a0 ai af cj aa T;obtain⟨a0,ai,af⟩:=bR.two;go_wp2_with(fail);refine(iX _ _ _).mono ?_
      exact Gm
     | ex e=>
      obtain⟨bl,bg,J,be,aZ,bc,am,ac,rfl,aB⟩:=Dv ag;have f0:=f 0 _ rfl;have f1:=f 1 _ rfl;have f2:=f 2 _ rfl;have f3:=f 3 _ rfl;have f4:=f 4 _ rfl;have f5:=f 5 _ rfl;have f6:=f 6 _ rfl;simp only[KQ] at f0;have U:=ae aB;clear f ag aB Q aF ax aw av aR;go_upto_region 17 with(fail);generalize hV:World.alloc _ _=V;have L:=aU hV;have hC:=aG hV;have cj:=ae (a9.trans L);have aa:=ae (y.trans L);have T:=ae (a7.ai L);have al:=ae (D.on U.o (Fr.ext L));have bR:=ae hC;clear L hC hV a0 ai af a9 y a7 U f0 f1 f2 f3 f4 f5 f6 ay;obtain⟨a0,ai,af⟩:=bR.two;go_wp2_with(fail);refine(gL _ _ _).mono ?_;rintro a6 a5 ⟨rfl,R⟩;have F:=ae (cj.trans R);have aN:=ae (aa.trans R);have N:=ae (T.ai R);have bR:=ae (bR.ai R);clear a0 ai af cj aa T;obtain⟨a0,ai,af⟩:=bR.two;go_wp2_with(fail);refine(fy e aQ.o _ _ _ _ _ _ _ (D.on al.o (Fr.ext R))).mono ?_;exact Gm
    ·obtain rfl:j=n1:=ad;clear aw av aR
     exact xk
 | lock u r=>
  obtain⟨rfl,rfl,rfl,rfl⟩:=kM z.expr;obtain rfl:0=n1:=z.args.1;obtain rfl:0=n2:=z.th.1;obtain rfl:0=n3:=z.el.1;have aW:=ae (show ov r from ah.o);simp only[aA.kind,aA.name] at *;cases u
  all_goals as_aux_lemma=>
   simp only[Lm,if_false,if_true] at *;go_wp2_with(fail);refine(iX _ _ _).mono ?_;rintro e aD ⟨rfl,he⟩;have bu:=ae (E.trans he);have l:=ae (m.trans he);have G:=ae (x.ai he);clear he a0 ai af E m x;obtain⟨a0,ai,af⟩:=G.two;go_wp2_with(fail);refine(rK r aW.o _ _ _ _ _ (D.on z.ref (Fr.ext l.o))).mono ?_
   exact Gn
 | ite e th el=>
  obtain⟨hex,cv,cf,aL,b0⟩:=ah.o;obtain⟨bf,Y,a2⟩:=eh hex aL b0;have S:=ae (show deep+1+cv≤23 by have:=cx.o;omega);obtain⟨rfl,rfl⟩:=hh z.ref;obtain rfl:0=n1:=z.args.1;clear hex aL b0 cf;simp only[aA.kind,aA.name] at *;as_aux_lemma=>
   go_wp2_with(fail);refine(fy e bf.o _ _ _ _ _ _ _ (D.on z.expr (Fr.ext m.o))).mono ?_;rintro e aD ⟨rfl,he⟩;have bu:=ae (E.trans he);have l:=ae (m.trans he);have G:=ae (x.ai he);clear he a0 ai af E m x;obtain⟨a0,ai,af⟩:=G.two;go_wp2_with(fail);refine(gL _ _ _).mono ?_;rintro e aE ⟨rfl,he⟩;have a4:=ae (bu.trans he);have q:=ae (l.trans he);have cb:=ae (G.ai he);clear he a0 ai af bu l G;obtain⟨a0,ai,af⟩:=cb.two;go_wp2;refine wp_loop_rounds 1 ?_;rw[rounds_succ];go_wp2_with(fail);refine((show FY th from aJ.1) cv (deep+1) _ _ _ _ Y.o (KX (Nat.le_add_right _ _) i.o) S.o (z.th.on (Fr.ext q.o))).mono ?_;rintro e aO ⟨rfl,he⟩;have a9:=ae (a4.trans he);have y:=ae (q.trans he);have a7:=ae (cb.ai he);clear he a0 ai af a4 q cb;obtain⟨a0,ai,af⟩:=a7.two;by_cases aV:n3=0
   ·subst aV;exact xk
   ·have dd:decide ((n3:Int) > 0)=true:=by simp;omega
    go_wp2_with(fail);refine((show FY el from aJ.2) cv (deep+1) _ _ _ _ a2.o (KX (Nat.le_add_left _ _) i.o) S.o (z.el.on (Fr.ext y.o))).mono ?_;rintro e bh ⟨rfl,he⟩;have cj:=ae (a9.trans he);have aa:=ae (y.trans he);have T:=ae (a7.ai he);clear he a0 ai af a9 y a7;obtain⟨a0,ai,af⟩:=T.two;go_wp2;go_roundw
    case rel=>exact⟨k+1,ad,by go_num,cj.o⟩
    case measure=>exact aH
 | gv e th=>
  obtain⟨hex,cv,cf,aL⟩:=ah.o;obtain⟨bf,Y⟩:=aI hex aL;have S:=ae (show deep+1+cv≤23 by have:=cx.o;omega);obtain⟨rfl,rfl⟩:=hh z.ref;obtain rfl:0=n1:=z.args.1;obtain rfl:0=n3:=z.el.1;clear hex aL cf;simp only[aA.kind,aA.name] at *;as_aux_lemma=>
   go_wp2_with(fail);refine(fy e bf.o _ _ _ _ _ _ _ (D.on z.expr (Fr.ext m.o))).mono ?_;rintro e aD ⟨rfl,he⟩;have bu:=ae (E.trans he);have l:=ae (m.trans he);have G:=ae (x.ai he);clear he a0 ai af E m x;obtain⟨a0,ai,af⟩:=G.two;go_wp2_with(fail);refine(gL _ _ _).mono ?_;rintro e aE ⟨rfl,he⟩;have a4:=ae (bu.trans he);have q:=ae (l.trans he);have cb:=ae (G.ai he);clear he a0 ai af bu l G;obtain⟨a0,ai,af⟩:=cb.two;go_wp2;refine wp_loop_rounds 1 ?_;rw[rounds_succ];go_wp2_with(fail);refine((show FY th from aJ.1) cv (deep+1) _ _ _ _ Y.o (KX (Nat.le_add_right _ _) i.o) S.o (z.th.on (Fr.ext q.o))).mono ?_;rintro e aO ⟨rfl,he⟩;have a9:=ae (a4.trans he);have y:=ae (q.trans he);have a7:=ae (cb.ai he);clear he a0 ai af a4 q cb;obtain⟨a0,ai,af⟩:=a7.two
   exact xk
 | ret=>
  obtain⟨rfl,rfl,rfl,rfl⟩:=kM z.expr;obtain⟨rfl,rfl⟩:=hh z.ref;obtain rfl:0=n1:=z.args.1;obtain rfl:0=n2:=z.th.1;obtain rfl:0=n3:=z.el.1;simp only[aA.kind,aA.name] at *;as_aux_lemma=>
   go_wp2_with(fail);refine(iX _ _ _).mono ?_;rintro e aD ⟨rfl,he⟩;have bu:=ae (E.trans he);have l:=ae (m.trans he);have G:=ae (x.ai he);clear he a0 ai af E m x;obtain⟨a0,ai,af⟩:=G.two;go_wp2_with(fail);refine(gL _ _ _).mono ?_;exact Gn
 ):p:=h
end BW
open BW in
theorem sY(b:an)(H:∀s∈b.list,FY s.th∧FY s.el):FY b:=by
 intro d deep A n c w bZ K aC hs;have hl:b.list.length=n:=by rw[←hs.1,cF,KK]
 have hn:n≤1000000:=by have:=eU b;omega
 have a8:deep≤23:=ad;have a3:decide ((deep:Int)≥24)=false:=by simp;omega
 rw[cF] at hs;obtain⟨bm,az⟩:=aI hs H;have aP:=ae (gN b d bZ);have aT:=ae (fun s (hs:s∈b.list)=>KX (Nat.le_of_lt (iE b s hs)) K);have cx:=ae aC;clear hs H bZ K hl aC;go_enter func110,ntmps110;go_wp2;go_loopw [5] (fun bd wr=>∃k:Nat,k≤n∧bd=.int .i64 k∧Ext w wr) (fun bd _=>n - (intOf bd).toNat)
 case atStart=>exact⟨0,ad,rfl,Lo⟩
 case round=>
  obtain⟨k,ap,rfl,aw⟩:=hrel;have bq:=ae aw;clear aw a3;by_cases ak:k<n
  ·obtain⟨bb,o,s,cs,rfl,O,co,dv,bp,Z⟩:=(bm.on (Fr.ext bq.o)).gZ ni ak;have aX:bb<wr.heap.size:=O;have ah:=ae (aP.o s (KJ co));have aJ:=ae (az.o s (KJ co));have i:=ae (aT.o s (KJ co));obtain⟨eo,en,es,EA,em,ec,rs,cc,c7,rc,bY,n1,c1,A2,n2,c2,cC,n3,c3,rfl,Q⟩:=k8 dv;exact vm
  ·obtain rfl:k=n:=ad;go_wp2;go_ret;exact⟨rfl,bq.o⟩
theorem ud(b:an):FY b:=an.Dl sY b
end Go.Proofs.YtnhhdaggkiomoaaGreat

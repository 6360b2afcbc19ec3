/- Part 13 of the proof. No condition of its own. -/
import Derived.Test.YtglbpimocmhojaaGreatQ12
namespace Go.Proofs.YtglbpimocmhojaaGreat
open Go.RowKit Go.Proofs.Tryz
set_option maxRecDepth 1000000
set_option maxHeartbeats 25600000
set_option linter.unusedVariables false
variable{s:ByteArray}{cs:List Value}{k:Nat}{P:Nat->Prop}{p:Prop}{α:Type}{w:World}{r:eO}
theorem an.Dc{C:an->Prop}(f:∀b:an,(∀s∈b.list,C s.th/\C s.el)->C b):∀b:an,C b:=by
 have c:C .nil:=f .nil λs hs=>by simp[an.list] at hs
 have fin:∀b:an,(∀s∈b.list,C s.th/\C s.el)->C b/\∀s∈b.list,C s.th/\C s.el:=λb h=>⟨f b h,h⟩
 suffices h:∀b:an,C b/\∀s∈b.list,C s.th/\C s.el from λb=>(h b).1
 intro b
 induction b with
 | nil=>exact fin _ λs hs=>by simp[an.list] at hs
 | set v n e rest ao=>
  exact xc
 | call g n a1 rest ao=>
  exact xc
 | lock u r rest ao=>
  exact xc
 | ite e th el rest j o ao=>
  refine fin _ λs hs=>?_;rcases KT.1 hs with rfl|hs
  .exact⟨j.1,o.1⟩
  .exact ao.2 s hs
 | gv e th rest j ao=>
  refine fin _ λs hs=>?_;rcases KT.1 hs with rfl|hs
  .exact⟨j.1,c⟩
  .exact ao.2 s hs
 | ret rest ao=>
  exact xc
theorem iD:∀(b:an) (s:aA),s∈b.list->s.th.num+s.el.num<b.num
 | .nil,s,h=>by simp[an.list] at h
 | .set v n e rest,s,h=>by
  rcases KT.1 h with rfl|h
  .simp[aA.th,aA.el,an.num]
  .have:=iD rest s h;simp only[an.num];omega
 | .call g n a1 rest,s,h=>by
  rcases KT.1 h with rfl|h
  .simp[aA.th,aA.el,an.num]
  .have:=iD rest s h;simp only[an.num];omega
 | .lock u r rest,s,h=>by
  rcases KT.1 h with rfl|h
  .simp[aA.th,aA.el,an.num]
  .have:=iD rest s h;simp only[an.num];omega
 | .ite e th el rest,s,h=>by
  rcases KT.1 h with rfl|h
  .simp only[aA.th,aA.el,an.num];omega
  .have:=iD rest s h;simp only[an.num];omega
 | .gv e th rest,s,h=>by
  rcases KT.1 h with rfl|h
  .simp only[aA.th,aA.el,an.num];omega
  .have:=iD rest s h;simp only[an.num];omega
 | .ret rest,s,h=>by
  rcases KT.1 h with rfl|h
  .simp[aA.th,aA.el,an.num]
  .have:=iD rest s h;simp only[an.num];omega
def wa(e:VE):Prop:=∃N d,dI N/\d<=12/\e.src N d
def oo(r:eO):Prop:=bD r.name.data.toList=true/\∀e,r.idx=some e->wa e
def tX:dn->Prop
 | .mx r=>oo r
 | .ex e=>wa e
def gA:Nat->an->Prop
 | _,.nil=>True
 | d,.set _ n e rest=>bD n.data.toList=true/\wa e/\gA d rest
 | d,.call _ n a1 rest=>(bD n.data.toList=true/\(∀a∈a1,tX a)/\a1.length<=1000)/\gA d rest
 | d,.lock _ r rest=>oo r/\gA d rest
 | 0,.ite ..=>False
 | 0,.gv ..=>False
 | d+1,.ite e th el rest=>wa e/\gA d th/\gA d el/\gA (d+1) rest
 | d+1,.gv e th rest=>wa e/\gA d th/\gA (d+1) rest
 | d,.ret rest=>gA d rest
def Jk(d:Nat):aA->Prop
 | .set _ n e=>bD n.data.toList=true/\wa e
 | .call _ n a1=>bD n.data.toList=true/\(∀a∈a1,tX a)/\a1.length<=1000
 | .lock _ r=>oo r
 | .ite e th el=>wa e/\∃k,d=k+1/\gA k th/\gA k el
 | .gv e th=>wa e/\∃k,d=k+1/\gA k th
 | .ret=>True
theorem gO:∀(b:an) (d:Nat),gA d b->∀s∈b.list,Jk d s
 | .nil,d,_,s,hs=>by simp[an.list] at hs
 | .set v n e rest,d,h,s,hs=>by
  have F:bD n.data.toList=true/\wa e/\gA d rest:=by cases d<;>exact h
  rcases KT.1 hs with rfl|hs
  .exact⟨F.1,F.2.1⟩
  .exact gO rest d F.2.2 s hs
 | .call g n a1 rest,d,h,s,hs=>by
  have F:(bD n.data.toList=true/\(∀a∈a1,tX a)/\a1.length<=1000)/\gA d rest:=by cases d<;>exact h
  rcases KT.1 hs with rfl|hs
  .exact F.1
  .exact gO rest d F.2 s hs
 | .lock u r rest,d,h,s,hs=>by
  have F:oo r/\gA d rest:=by cases d<;>exact h
  rcases KT.1 hs with rfl|hs
  .exact F.1
  .exact gO rest d F.2 s hs
 | .ite e th el rest,0,h,s,hs=>h.elim
 | .gv e th rest,0,h,s,hs=>h.elim
 | .ite e th el rest,d+1,h,s,hs=>by
  rcases KT.1 hs with rfl|hs
  .exact⟨h.1,d,rfl,h.2.1,h.2.2.1⟩
  .exact gO rest (d+1) h.2.2.2 s hs
 | .gv e th rest,d+1,h,s,hs=>by
  rcases KT.1 hs with rfl|hs
  .exact⟨h.1,d,rfl,h.2.1⟩
  .exact gO rest (d+1) h.2.2 s hs
 | .ret rest,d,h,s,hs=>by
  have F:gA d rest:=by cases d<;>exact h
  rcases KT.1 hs with rfl|hs
  .trivial
  .exact gO rest d F s hs
theorem oo.src(h:oo r):Ej r:=λe he=>by
 obtain⟨N,d,_,_,hs⟩:=h.2 e he;exact⟨N,d,hs⟩
theorem tX.src{a:dn}(h:tX a):FD a:=by
 cases a with
 | mx r=>exact oo.src h
 | ex e=>
  obtain⟨N,d,_,_,hs⟩:=h;exact⟨N,d,hs⟩
theorem wa.src{e:VE}(h:wa e):∃N d,e.src N d:=by
 obtain⟨N,d,_,_,hs⟩:=h;exact⟨N,d,hs⟩
theorem ji:∀(b:an) (d:Nat),gA d b->nB b
 | .nil,_,_=>trivial
 | .set v n e rest,d,h=>by
  have F:bD n.data.toList=true/\wa e/\gA d rest:=by cases d<;>exact h
  exact⟨F.2.1.src,ji rest d F.2.2⟩
 | .call g n a1 rest,d,h=>by
  have F:(bD n.data.toList=true/\(∀a∈a1,tX a)/\a1.length<=1000)/\gA d rest:=by cases d<;>exact h
  exact⟨⟨λa bx=>(F.1.2.1 a bx).src,F.1.2.2⟩,ji rest d F.2⟩
 | .lock u r rest,d,h=>by
  have F:oo r/\gA d rest:=by cases d<;>exact h
  exact⟨F.1.src,ji rest d F.2⟩
 | .ite e th el rest,0,h=>h.elim
 | .gv e th rest,0,h=>h.elim
 | .ite e th el rest,d+1,h=>⟨h.1.src,ji th d h.2.1,ji el d h.2.2.1,ji rest (d+1) h.2.2.2⟩
 | .gv e th rest,d+1,h=>⟨h.1.src,ji th d h.2.1,ji rest (d+1) h.2.2⟩
 | .ret rest,d,h=>by
  have F:gA d rest:=by cases d<;>exact h
  exact ji rest d F
theorem Ev{G:Env}(hG:nJ G){V:Lq}(hV:dI V)(h:rT G V r):oo r:=by
 rcases h with⟨m,hm,hn,ac,au⟩|⟨hp,an⟩
 .refine⟨by rw[<-hn];exact hG.af m hm,λe he=>?_⟩;by_cases hs:0<m.size
  .obtain⟨x,hx,ay⟩:=ac hs;rw[hx] at he;injection he with he;subst he;exact⟨V,2,hV,ad,ay⟩
  .rw[au hs] at he;cases he
 .refine⟨hG.params _ hp,λe he=>?_⟩;rw[an] at he;cases he
theorem xT{G:Env}(hG:nJ G){V:Lq}(hV:dI V):∀(ps:List (ByteArray×Bool)) (a1:List dn),iM G V ps a1->(∀a∈a1,tX a)/\a1.length=ps.length
 | [],[],_=>⟨λa h=>by simp at h,rfl⟩
 | p::ps,a::a1,h=>by
  obtain⟨j,o⟩:=xT hG hV ps a1 h.2;refine⟨λx hx=>?_,by simp[o]⟩;rcases KT.1 hx with rfl|hx
  .cases x with
   | mx r=>exact Ev hG hV h.1.2
   | ex e=>exact⟨V,2,hV,ad,h.1.2⟩
  .exact j x hx
 | [],_::_,h=>h.elim
 | _::_,[],h=>h.elim
theorem ki{G:Env}(hG:nJ G):∀(b:an) (d:Nat) (V T:Lq),dI V->e4 G d V T b->gA d b
 | .nil,d,V,T,hV,h=>by cases d<;>trivial
 | .set true n e rest,d,V,T,hV,h=>by
  have F:bD n.data.toList=true/\n∉T/\e.src V 2/\e4 G d (V++[n]) (T++[n]) rest:=by cases d<;>exact h
  have ao:=ki hG rest d _ _ (jZ hV F.1) F.2.2.2;have r:bD n.data.toList=true/\wa e/\gA d rest:=⟨F.1,⟨V,2,hV,ad,F.2.2.1⟩,ao⟩
  cases d<;>exact r
 | .set false n e rest,d,V,T,hV,h=>by
  have F:n∈V/\e.src V 2/\e4 G d V T rest:=by cases d<;>exact h
  have ao:=ki hG rest d _ _ hV F.2.2;have r:bD n.data.toList=true/\wa e/\gA d rest:=⟨hV n F.1,⟨V,2,hV,ad,F.2.1⟩,ao⟩
  cases d<;>exact r
 | .call g n a1 rest,d,V,T,hV,h=>by
  have F:(∃ps,(n,ps)∈G.funcs/\iM G V ps a1)/\e4 G d V T rest:=by cases d<;>exact h
  have ao:=ki hG rest d _ _ hV F.2;obtain⟨ps,cl,aJ⟩:=F.1;obtain⟨q,y⟩:=xT hG hV ps a1 aJ;have J:=hG.funcs _ cl;have hle:a1.length<=1000:=by have:=J.2;simp only[] at this;omega
  have r:(bD n.data.toList=true/\(∀a∈a1,tX a)/\a1.length<=1000)/\gA d rest:=⟨⟨J.1,q,hle⟩,ao⟩
  cases d<;>exact r
 | .lock u r rest,d,V,T,hV,h=>by
  have F:rT G V r/\e4 G d V T rest:=by cases d<;>exact h
  have ao:=ki hG rest d _ _ hV F.2;have r:oo r/\gA d rest:=⟨Ev hG hV F.1,ao⟩
  cases d<;>exact r
 | .ite e th el rest,0,V,T,hV,h=>h.elim
 | .gv e th rest,0,V,T,hV,h=>h.elim
 | .ite e th el rest,d+1,V,T,hV,h=>⟨⟨V,2,hV,ad,h.1⟩,ki hG th d V T hV h.2.1,ki hG el d V T hV h.2.2.1,ki hG rest (d+1) V T hV h.2.2.2⟩
 | .gv e th rest,d+1,V,T,hV,h=>⟨⟨V,2,hV,ad,h.1⟩,ki hG th d V T hV h.2.1,ki hG rest (d+1) V T hV h.2.2⟩
 | .ret rest,d,V,T,hV,h=>by
  have F:e4 G d V T rest:=by cases d<;>exact h
  have ao:=ki hG rest d _ _ hV F;cases d<;>exact ao
def hW(g:ByteArray×Int):List UInt8:=aU (hz g)
def kf(m:bG):List UInt8:=aU (hA m)
def kd(f:aJ):List UInt8:=aU (hy f)
def ha(l:List (ByteArray×Bool)):List UInt8:=aU (dX (l.map gH))
theorem DA(g:ByteArray×Int):hW g=[118,97,114,32]++(g.1.data.toList++((if g.2=0 then [] else [32,61,32]++aU (hB g.2))++[59,10])):=by
 unfold hW hz;split
 .simp[aU,Atom.bytes,kw]
 .simp only[a5,bf,KS];simp[aU,Atom.bytes,kw]
theorem DN(m:bG):kf m=(if m.re then [114] else [])++([109,117,116,101,120,32]++(m.name.data.toList++((if 0<m.size then [91]++(aU (hB m.size)++[93]) else [])++[59,10]))):=by
 unfold kf hA;by_cases h:0<m.size
 .cases m.re<;>simp[h,aU,Atom.bytes,kw,fN]
 .cases m.re<;>simp[h,aU,Atom.bytes,kw,fN]
theorem qk{l:List (ByteArray×Bool)}{q:ByteArray×Bool}(h:l[k]?=some q):ha (l.take (k+1))=ha (l.take k)++((if 0<k then [44,32] else [])++((if q.2 then [109,117,116,101,120,32] else [])++q.1.data.toList)):=by
 have ap:k<l.length:=(List.getElem?_eq_some_iff.1 h).1;have bv:aU (gH q)=(if q.2 then [109,117,116,101,120,32] else [])++q.1.data.toList:=by
  unfold gH;split<;>simp[aU,Atom.bytes,kw,fN]
 unfold ha;rw[List.take_add_one,h,KK];show aU (dX (List.map gH (List.take k l)++[gH q]))=_
 rw[lW];by_cases h0:0<k
 .rw[if_neg (by intro e;have:=congrArg List.length e;simp only[KH,List.length_take,KW] at this;omega),if_pos h0,bf,a5,a5,bv];simp[Atom.bytes]
 .obtain rfl:k=0:=ad;simp[dX,aU,<-bv]
theorem Ds(f:aJ):kd f=[102,117,110,99,32]++(f.name.data.toList++([40]++(ha f.params++([41,32,123,10]++(cD 1 f.body++[125,10]))))):=by
 unfold kd hy ha cD;simp only[a5,bf];simp[aU,Atom.bytes,kw]
theorem lP(f:α->List Atom)(l:List α):aU (l.flatMap f)=(l.map λx=>aU (f x)).flatten:=by
 induction l with
 | nil=>rfl
 | cons a l ao=>rw[KX,bf,ao];simp
def fk{α:Type}(f:α->List UInt8)(l:List α):List UInt8:=(l.map f).flatten
theorem m4{f:α->List UInt8}{l:List α}{x:α}(h:l[k]?=some x):fk f (l.take (k+1))=fk f (l.take k)++f x:=by
 unfold fk;rw[List.take_add_one,h,KK,List.flatten_append];simp
theorem kM(f:α->List UInt8)(l:List α)(k:Nat):(fk f (l.take k)).length<=(fk f l).length:=by
 conv=>rhs;rw[<-List.take_append_drop k l]
 unfold fk;rw[KK,List.flatten_append,KF];omega
theorem rI(p:bK):aU (fE p)=fk hW p.globals++(fk kf p.af++fk kd p.funcs):=by
 unfold fE;rw[bf,bf,lP,lP,lP];rfl
section
theorem iX(A:Lp)(c:Nat)(w:World):Calls prog 126 #[.agg #[.int .i64 0,.int .i64 0,.string ⟨#[]⟩,.slice A 0 c]] w λe ab=>e=.returned (.bool true)/\Ext w ab:=by
 go_enter func126,ntmps126;exact va
theorem gM(A:Lp)(c:Nat)(w:World):Calls prog 128 #[.agg #[.string ⟨#[]⟩,.slice A 0 c]] w λe ab=>e=.returned (.bool true)/\Ext w ab:=by
 go_enter func128,ntmps128;exact va
def rX(x:VE):Prop:=∀(op n:Int) (s:ByteArray) (A:Lp) (m c:Nat) (w:World),(bk x).rep w (av w) [.int .i64 op,.int .i64 n,.string s,.slice A m c]->
 Calls prog 145 #[.agg #[.int .i64 op,.int .i64 n,.string s,.slice A m c]] w λe ab=>e=.returned (.bool true)/\Ext w ab
namespace BI
theorem pa(h:p:=by
 obtain⟨bo,cq⟩:=aH hs ao;clear a5 ao;go_enter func145,ntmps145;go_wp2_with(fail);generalize ba:World.alloc _ _=W;have aw:=aX ba;have aR:=aK ba;clear ba;refine(gq x.a9 W).mono ?_;rintro e aS ⟨rfl,ar⟩;have bq:=ae (aw.trans ar);have b1:=ae (aR.ai ar);obtain⟨a0,ai,af⟩:=(aR.ai ar).two;clear aw aR ar;have P:=hs.1;rw[KH] at P;clear hs;have key:∀(n0:Nat) (aM:x.args.length=n0),True:=λ_ _=>trivial;clear key
 cases x with
 | num n=>
  have hn:0<=n/\n<4611686018427387904:=by cases d<;>exact hx
  obtain rfl:0=m:=P;simp only[VE.a9,VE.numOf,VE.bu] at *;have cg:decide (n>=0)=true:=by simp;omega
  rw[show cW 1=6 by decide];clear hx bo cq hn;go_wp2;go_quiet (fail)
  go_wp2;refine wp_loop_rounds 1 ?_;rw[rounds_succ];go_wp2;go_ret
  exact⟨rfl,bq.drewN _⟩
 | g1 s=>
  have hs:s∈N:=by cases d<;>exact hx
  obtain rfl:0=m:=P;simp only[VE.a9,VE.numOf,VE.bu] at *;have aj:=ae (show jC s=true from hN s hs);have bZ:s.size<=1000000:=by
   have:=eB (hN s hs);have au:s.size=s.data.toList.length:=rfl;omega
  rw[show cW 2=6 by decide];clear hx bo cq hs;go_wp2;refine eK (λ_=>False) [(0,3),(1,0),(2,3),(3,3),(4,3),(5,0),(6,3),(7,3),(8,3),(9,3),(10,0),(11,3),(12,3),(13,3),(14,0),(15,3),(16,3),(17,3),(18,0),(19,3),(20,3),(21,3),(22,3),(23,0),(24,1),(25,3),(26,3),(27,3)] ?_;refine pf ?_;refine ph ?_
  iterate 2 refine pf ?_
  refine dm rfl (by rfl) ?_
  try simp only[PU]
  refine ib rfl (by rfl) ?_
  try simp only[PU]
  refine dm rfl (by rfl) ?_
  try simp only[PU]
  iterate 2 refine pf ?_
  refine dm rfl (by rfl) ?_
  try simp only[PU]
  refine ib rfl (by rfl) ?_
  try simp only[PU]
  refine dm rfl (by rfl) ?_
  try simp only[PU]
  iterate 2 refine pf ?_
  refine ph ?_
  iterate 3 refine pf ?_
  refine ph ?_
  iterate 4 refine pf ?_
  refine ph ?_;refine aI rfl (λK hK=>?_);go_simp;refine(g6 s _ bZ).mono ?_;rintro e aT ⟨rfl,bw⟩;rw[aj.o];refine dz hK (bw) ?_;clear hK K
  iterate 3 refine pf ?_
  refine aE ?_;have a4:=ae (bq.trans (Fr.aF bw));have bs:=(show aq aS w.heap.size 53 _ from b1.o).ai (Fr.aF bw);obtain⟨a8,am,aF⟩:=bs.two;clear bw a0 ai af bs;go_wp2;refine wp_loop_rounds 1 ?_;rw[rounds_succ];go_wp2;go_ret
  exact⟨rfl,a4.o⟩
 | loc j=>exact(by cases d<;>exact hx:False).elim
 | iB j=>exact(by cases d<;>exact hx:False).elim
 | un op y=>
  obtain rfl:1=m:=P
  have cx:op=3\/op=4:=by cases d with
   | zero=>exact hx.elim
   | succ d=>exact hx.1
  simp only[VE.a9,VE.numOf,VE.bu] at *;rw[show cW op=5 by rcases cx with rfl|rfl<;>decide];clear hx cx;go_wp2;go_loopw [6] (λbd wr=>∃k:Nat,k<=1/\bd=.int .i64 k/\Ext w wr/\aq wr w.heap.size 53 #[.int .i64 op,.int .i64 0,.string ⟨#[]⟩,.slice A 1 c]) (λbd _=>1 - (intOf bd).toNat)
  case atStart=>exact⟨0,ad,rfl,bq.o,b1.o⟩
  case round=>
   obtain⟨k,ap,rfl,aw,aR⟩:=hrel;clear bq b1 a0 ai af;obtain⟨bq,b1⟩:=aH aw aR;obtain⟨a0,ai,af⟩:=aR.two;by_cases ak:k<1
   .obtain⟨b,o,z,cs,rfl,O,bb,Q,bj,Z⟩:=(bo.on (Fr.ext aw)).g0 c7 ak;clear aw aR
    match cs,bj with
    | [cr,cy,cd,bv],_=>
    exact F9
   .obtain rfl:k=1:=ad;clear aw aR;go_wp2;go_ret
    exact⟨rfl,bq.o⟩
 | bin op y z=>
  obtain rfl:2=m:=P
  have cx:5<=op/\op<=17:=by cases d with
   | zero=>exact hx.elim
   | succ d=>exact hx.1
  obtain⟨g,bm,f,_⟩:=uy cx;simp only[VE.a9,VE.numOf,VE.bu] at *;rw[f];have di:((g:Int) == 6)=false:=by simp;omega
  have q5:((g:Int) == 5)=false:=by simp;omega
  clear hx cx bm f;go_wp2;go_loopw [6] (λbd wr=>∃k:Nat,k<=2/\bd=.int .i64 k/\Ext w wr/\aq wr w.heap.size 53 #[.int .i64 op,.int .i64 0,.string ⟨#[]⟩,.slice A 2 c]) (λbd _=>2 - (intOf bd).toNat)
  case atStart=>exact⟨0,ad,rfl,bq.o,b1.o⟩
  case round=>
   obtain⟨k,ap,rfl,aw,aR⟩:=hrel;clear bq b1 a0 ai af di q5;obtain⟨bq,b1⟩:=aH aw aR;obtain⟨a0,ai,af⟩:=aR.two;by_cases ak:k<2
   .obtain⟨b,o,z,cs,rfl,O,bb,Q,bj,Z⟩:=(bo.on (Fr.ext aw)).g0 c7 ak;clear aw aR
    match cs,bj with
    | [cr,cy,cd,bv],_=>
    exact F9
   .obtain rfl:k=2:=ad;clear aw aR;go_wp2;go_ret;exact⟨rfl,bq.o⟩
 ):p:=h
end BI
open BI in
theorem wy(N:Lq)(hN:dI N)(d:Nat)(x:VE)(hx:x.src N d)(ao:∀(k:Nat) (y:VE),x.args[k]?=some y->rX y):rX x:=by
 intro op n s A m c w a5;exact o9
theorem FE{N:Lq}{C:VE->Nat->Prop}(f:∀(d:Nat) (x:VE),x.src N d->(∀(k:Nat) (y:VE),x.args[k]?=some y->∃e,d=e+1/\C y e)->C x d):∀(d:Nat) (x:VE),x.src N d->C x d:=by
 intro d
 induction d with
 | zero=>exact λx hx=>f 0 x hx λk y bb=>by rw[qx hx] at bb;simp at bb
 | succ d ao=>exact λx hx=>f (d+1) x hx λk y bb=>⟨d,rfl,ao y (qw hx bb)⟩
theorem yD(N:Lq)(hN:dI N)(d:Nat)(x:VE)(hx:x.src N d):rX x:=
 FE (C:=λx _=>rX x) (λd x hx ao=>wy N hN d x hx λk y bb=>by obtain⟨_,_,h⟩:=ao k y bb;exact h) d x hx
def rV(x:VE)(d:Nat):Prop:=∀(op n:Int) (s:ByteArray) (A:Lp) (m c:Nat) (w:World),(bk x).rep w (av w) [.int .i64 op,.int .i64 n,.string s,.slice A m c]->
 Calls prog 146 #[.agg #[.int .i64 op,.int .i64 n,.string s,.slice A m c]] w λe ab=>(∃h:Int,e=.returned (.int .i64 h)/\0<=h/\h<=2*d)/\Ext w ab
attribute [local go_sem ↓] gm gp
namespace BJ
theorem pa(h:p:=by
 have al:m<=2:=by rw[<-hs.1,KH];exact tv x
 have dD:m=x.args.length:=by rw[<-hs.1,KH]
 obtain⟨cQ,aQ,bo,cq⟩:=iS dD hx hs ao;clear a5 ao hs hx dD;go_enter func146,ntmps146;go_wp2;generalize ba:World.alloc _ _=W;have aw:=aX ba;have aR:=aK ba;clear ba;obtain⟨bq,b1⟩:=aH aw aR;clear aw aR;go_loopw [3,4] (λbI bd wr=>∃(k:Nat) (h:Int),k<=m/\bd=.int .i64 k/\bI=.int .i64 h/\0<=h/\(h=0\/h+1<=2*d)/\Ext w wr/\aq wr w.heap.size 53 #[.int .i64 x.a9,.int .i64 x.numOf,.string x.bu,.slice A m c]) (λ_ bd _=>m - (intOf bd).toNat)
 case atStart=>exact⟨0,0,ad,rfl,rfl,ad,.inl rfl,bq.o,b1.o⟩
 case round=>
  obtain⟨k,h,ap,rfl,rfl,f,ag,aw,aR⟩:=hrel;clear bq b1;obtain⟨bq,b1⟩:=aH aw aR;obtain⟨a0,ai,af⟩:=aR.two;by_cases ak:k<m
  .obtain⟨b,o,z,cs,rfl,O,bb,Q,bj,Z⟩:=(bo.on (Fr.ext aw)).g0 c7 ak;clear aw aR
   match cs,bj with
   | [cr,cy,cd,bv],_=>
   have c0:=Z 0 cr rfl;have c1:=Z 1 cy rfl;have c2:=Z 2 cd rfl;have c3:=Z 3 bv rfl;simp only[KN] at c0;have aV:b<wr.heap.size:=O;clear Z O;obtain⟨B,bN,bc,e,cv,b2⟩:=a1.1 Q;simp only[List.cons.injEq,and_true] at e;obtain⟨rfl,rfl,rfl,rfl⟩:=e;obtain⟨e0,S,hC⟩:=cq.o k z bb;obtain⟨bQ,bB,H⟩:=eh hC bb Q;clear bb Q b2 hC;go_wp2_with(fail);refine(bQ.o _ _ _ _ _ _ wr H.o).mono ?_;rintro e aT ⟨⟨au,rfl,g,i⟩,bw⟩;have a4:=ae (bq.trans bw);have br:=ae (b1.ai bw);have d0:=(bw.cell (j:=o+k*4) aV (λh=>h)).trans c0;have bg:b<aT.heap.size:=KE aV bw.size;have cb:k<=1:=ad;clear bw a0 ai af c0 c1 c2 c3 aV;obtain⟨a0,ai,af⟩:=br.two;go_wp2_with(fail);refine(rz x.a9 x.numOf z.a9 x.bu b o m c k aT cb ak bg d0).mono ?_;rintro e bX ⟨rfl,bT⟩;have a9:=ae (a4.trans bT);have a7:=ae (br.ai bT);clear bT a0 ai af d0 bg;cases dC x.a9 z.a9 (k == 1)
   .go_wp2;go_roundw
    case rel=>exact⟨k+1,max h au,ad,by go_num,rfl,ad,.inr ad,a9.o,a7.o⟩
    case measure=>exact aG
   .go_wp2;go_roundw
    case rel=>exact⟨k+1,max h (au+1),ad,by go_num,rfl,ad,.inr ad,a9.o,a7.o⟩
    case measure=>exact aG
  .obtain rfl:k=m:=ad;clear aw aR;have b7:decide ((k:Int)<(k:Int))=false:=by simp
   go_wp2_with(fail);refine(gq x.a9 wr).mono ?_;rintro e aT ⟨rfl,bw⟩;have a4:=ae (bq.trans bw);clear bw;by_cases cF:cW x.a9=5
   .have O:h+1<=2*d:=by
     rcases ag with rfl|ag
     .have:0<d:=by
       rcases Nat.eq_zero_or_pos d with h0|h0
       .exfalso;subst h0;have ac:=aQ.o;cases x<;>first|exact ac.elim|exact absurd cF (show ¬cW 1=5 by decide)|exact absurd cF (show ¬cW 2=5 by decide)
       .exact h0
      omega
     .exact ag
    rw[cF];go_wp2;go_ret;exact⟨⟨h+1,rfl,ad,O⟩,a4.o⟩
   .have q5:(cW x.a9 == 5)=false:=by simpa using cF
    go_wp2;go_ret;exact⟨⟨h,rfl,f,ad⟩,a4.o⟩
 ):p:=h
end BJ
open BJ in
theorem nS(N:Lq)(d:Nat)(hd:d<=1000)(x:VE)(hx:x.src N d)(ao:∀(k:Nat) (y:VE),x.args[k]?=some y->∃e,d=e+1/\rV y e):rV x d:=by
 intro op n s A m c w a5;exact o9
theorem vL(N:Lq):∀(d:Nat),d<=1000->∀(x:VE),x.src N d->rV x d:=by
 intro d
 induction d with
 | zero=>exact λhd x hx=>nS N 0 hd x hx λk y bb=>by rw[qx hx] at bb;simp at bb
 | succ d ao=>exact λhd x hx=>nS N (d+1) hd x hx λk y bb=>⟨d,rfl,ao ad y (qw hx bb)⟩
theorem fA(x:VE)(hx:wa x)(op n:Int)(s:ByteArray)(A:Lp)(m c:Nat)(w:World)(a5:(bk x).rep w (av w) [.int .i64 op,.int .i64 n,.string s,.slice A m c]) :
  Calls prog 125 #[.agg #[.int .i64 op,.int .i64 n,.string s,.slice A m c]] w λe ab=>e=.returned (.bool true)/\Ext w ab:=by
 obtain⟨N,d,hN,hd,hs⟩:=hx;have aW:=ae a5;have b:=ae (yD N hN d x hs);have a:=ae (vL N d ad x hs);clear a5 hs hN;go_enter func125,ntmps125;go_wp2_with(fail);generalize ba:World.alloc _ _=W;have aw:=aX ba;have aR:=aK ba;clear ba;refine(b.o _ _ _ _ _ _ W (D.on aW.o (Fr.ext aw))).mono ?_;rintro e aT ⟨rfl,bw⟩;have a4:=ae (aw.trans bw);obtain⟨a0,ai,af⟩:=(aR.ai bw).two;clear aw aR bw;go_wp2_with(fail);refine(a.o _ _ _ _ _ _ aT (D.on aW.o (Fr.ext a4.o))).mono ?_;rintro e bX ⟨⟨h,rfl,h0,ac⟩,bT⟩;have a9:=ae (a4.trans bT);have q:decide (h<=24)=true:=by simp;omega
 clear bT a0 ai af;go_wp2;go_ret;exact⟨rfl,a9.o⟩
theorem rF(r:eO)(a5:oo r)(s:ByteArray)(A:Lp)(n c:Nat)(w:World)(h:(kx r).rep w (av w) [.string s,.slice A n c]) :
  Calls prog 127 #[.agg #[.string s,.slice A n c]] w λe ab=>e=.returned (.bool true)/\Ext w ab:=by
 obtain⟨I,aP,aJ,e,U,hs⟩:=jv.1 h;simp only[List.cons.injEq,Value.string.injEq,Value.slice.injEq,and_true] at e;obtain⟨rfl,rfl,rfl,rfl⟩:=e;have aj:=ae (show jC r.name=true from a5.1);have bZ:r.name.size<=1000000:=by
  have:=eB a5.1;have au:r.name.size=r.name.data.toList.length:=rfl;omega
 obtain⟨cc,bo⟩:=aH a5.2 hs;clear h hs a5;go_enter func127,ntmps127;go_wp2_with(fail);generalize ba:World.alloc _ _=W;have aw:=aX ba;have aR:=aK ba;clear ba;refine(g6 r.name W bZ).mono ?_;rintro e aT ⟨rfl,bw⟩;rw[aj.o];have a4:=ae (aw.trans bw);have br:=ae (aR.ai bw);obtain⟨a0,ai,af⟩:=(aR.ai bw).two;clear aw aR bw
 cases an:r.idx with
 | none=>
  have h0:=bo.1;rw[an] at h0;obtain rfl:0=n:=h0;clear an;go_wp2;go_ret
  exact⟨rfl,a4.o⟩
 | some x=>
  have aQ:=ae (cc.o x an);have h0:=bo.on (Fr.ext a4.o);rw[an] at h0;obtain rfl:1=n:=h0.1;obtain⟨b,o,bs,Z,bA,E,rfl,O,aB,c0,c1,c2,c3⟩:=Sl.DU h0 (c7 x);obtain⟨B,bN,bc,e,cv,b2⟩:=a1.1 aB;simp only[List.cons.injEq,and_true] at e;obtain⟨rfl,rfl,rfl,rfl⟩:=e;have aV:b<aT.heap.size:=O;have ak:=ae aB;clear an h0 b2 aB O cc bo;go_wp2_with(fail);refine(fA x aQ.o _ _ _ _ _ _ aT ak.o).mono ?_;rintro e bX ⟨rfl,bT⟩;have a9:=ae (a4.trans bT);clear bT;go_wp2;go_ret;exact⟨rfl,a9.o⟩
end
theorem kL{eo en:Int}{es:ByteArray}{EA:Lp}{em ec:Nat}(h:(oj none).rep w P [.int .i64 eo,.int .i64 en,.string es,.slice EA em ec]):eo=0/\en=0/\es=⟨#[]⟩/\em=0:=by
 obtain⟨A,c,e⟩:=fh.1 h;simp only[List.cons.injEq,Value.int.injEq,Value.string.injEq,Value.slice.injEq,and_true,true_and] at e;exact⟨e.1,e.2.1,e.2.2.1,e.2.2.2.2.1⟩
theorem hh{A:Lp}{n c:Nat}(h:(pE none).rep w P [.string s,.slice A n c]):s=⟨#[]⟩/\n=0:=by
 unfold pE fV at h;rw[bI,cp] at h;obtain⟨y,e,h⟩:=h;injection e with e1 e2;injection e1 with e1;subst e2;obtain⟨I,aP,aJ,cd,e,_,hs,au⟩:=aN.1 h;injection e with e2 e3;injection e2 with _ e2 _;exact⟨e1,by rw[e2];exact hs.1.symm⟩
theorem Dn(h:(gI (.mx r)).rep w P cs):∃s A n c EA ec,cs=[.bool true,.string s,.slice A n c,.int .i64 0,.int .i64 0,.string ⟨#[]⟩,.slice EA 0 ec]/\(kx r).rep w P [.string s,.slice A n c]:=by
 exact Gm
namespace BL
theorem vm(h:p:=by
 obtain⟨A,n,c,bF,rfl,_,hs,bt⟩:=aN.1 hx;rw[aP] at bt;subst bt;obtain rfl:n=0:=hs.1.symm;exact zi
 ):p:=h
end BL
open BL in
theorem Dl{e:VE}(h:(gI (.ex e)).rep w P cs):∃cc rc op n s A m c,cs=[.bool false,.string ⟨#[]⟩,.slice cc 0 rc,.int .i64 op,.int .i64 n,.string s,.slice A m c]/\(bk e).rep w P [.int .i64 op,.int .i64 n,.string s,.slice A m c]:=by
 exact vl
theorem h9(h:bD s.data.toList=true):s.size<=1000000:=by
 have:=eB h;have au:s.size=s.data.toList.length:=rfl;omega
def FO(b:an):Prop:=∀(d deep:Nat) (A:Lp) (n c:Nat) (w:World),gA d b->b.num<=1000000->deep+d<=23->Sl w (av w) A n (c4 b)->
 Calls prog 101 #[.slice A n c,.int .i64 deep] w λe ab=>e=.returned (.bool true)/\Ext w ab
namespace BM
theorem vg(h:p:=by
 have R:=ae P;clear Z dW P cy bj O;go_upto_region 7 with(fail);generalize ba:World.alloc wr _=W;have l:=aX ba;have aR:=aK ba;have z:=ae R.o;have J:=ae (bq.trans l);obtain⟨q,x⟩:=aH l aR;obtain⟨a0,ai,af⟩:=aR.two;clear ba l aR d0 d1 d2 d3 d4 d5 d6 d7 d8 d9 d10 R aV
 cases s with
 | set v nm e=>
  obtain⟨I,hex⟩:=ag.o;have aj:=ae (show jC nm=true from I);have bZ:=h9 (show bD nm.data.toList=true from I);have be:=ae hex;obtain⟨rfl,rfl⟩:=hh z.ref;obtain rfl:0=n1:=z.args.1;obtain rfl:0=n2:=z.th.1;obtain rfl:0=n3:=z.el.1;clear I hex;simp only[aA.kind,aA.name] at *;cases v
  all_goals as_aux_lemma=>
   simp only[Lj,if_false,if_true] at *;go_wp2_with(fail);refine(g6 nm _ bZ).mono ?_;rintro e aD ⟨rfl,he⟩;have bu:=ae (J.trans he);have m:=ae (q.trans he);have G:=ae (x.ai he);clear he a0 ai af J q x;obtain⟨a0,ai,af⟩:=G.two;rw[aj.o];go_wp2_with(fail);refine(fA e be.o _ _ _ _ _ _ _ (D.on z.expr (Fr.ext m.o))).mono ?_;rintro e aE ⟨rfl,he⟩;have a4:=ae (bu.trans he);have y:=ae (m.trans he);have br:=ae (G.ai he);clear he a0 ai af bu m G;obtain⟨a0,ai,af⟩:=br.two;go_wp2_with(fail);refine(gM _ _ _).mono ?_;rintro e aO ⟨rfl,he⟩;have a9:=ae (a4.trans he);have E:=ae (y.trans he);have a7:=ae (br.ai he);clear he a0 ai af a4 y br;obtain⟨a0,ai,af⟩:=a7.two;go_wp2;refine wp_loop_rounds 1 ?_;rw[rounds_succ]
   exact xd
 | call g nm a1=>
  obtain⟨I,aJ,hlen⟩:=ag.o;have aj:=ae (show jC nm=true from I);have bZ:=h9 (show bD nm.data.toList=true from I);obtain⟨rfl,rfl,rfl,rfl⟩:=kL z.expr;obtain⟨rfl,rfl⟩:=hh z.ref;have ao:=ae aJ;have cY:n1<=1000:=by have:=z.args.1;rw[KH] at this;simp only[aA.args] at this;omega
  obtain rfl:0=n2:=z.th.1;obtain rfl:0=n3:=z.el.1;clear I aJ hlen;simp only[aA.kind,aA.name] at *;cases g
  all_goals as_aux_lemma=>
   simp only[Lj,if_false,if_true] at *;go_wp2_with(fail);refine(g6 nm _ bZ).mono ?_;rintro e aD ⟨rfl,he⟩;have bu:=ae (J.trans he);have m:=ae (q.trans he);have G:=ae (x.ai he);clear he a0 ai af J q x;obtain⟨a0,ai,af⟩:=G.two;rw[aj.o];go_wp2_with(fail);refine(iX _ _ _).mono ?_;rintro e aE ⟨rfl,he⟩;have a4:=ae (bu.trans he);have y:=ae (m.trans he);have br:=ae (G.ai he);clear he a0 ai af bu m G;obtain⟨a0,ai,af⟩:=br.two;go_wp2_with(fail);refine(gM _ _ _).mono ?_;rintro e aO ⟨rfl,he⟩;have a9:=ae (a4.trans he);have E:=ae (y.trans he);have a7:=ae (br.ai he);clear he a0 ai af a4 y br;obtain⟨a0,ai,af⟩:=a7.two;go_wp2;have aS:=ae (show Sl wr (av wr) bU n1 (a1.map gI) from z.args);go_loopw [12] (λb0 b4=>∃j:Nat,j<=n1/\b0=.int .i64 j/\Ext w b4/\Ext wr b4/\aq b4 wr.heap.size 174 _) (λb0 _=>n1 - (intOf b0).toNat)
   case atStart=>exact⟨0,ad,rfl,a9.o,E.o,a7.o⟩
   case round=>
    obtain⟨j,bi,rfl,aw,au,aR⟩:=hrel;clear a9 E a7 a0 ai af;obtain⟨a9,E,a7⟩:=eh aw au aR;obtain⟨a0,ai,af⟩:=aR.two;by_cases X:j<n1
    .obtain⟨ab,cP,a,cs,rfl,ax,P,ah,aF,f⟩:=(aS.on (Fr.ext au)).g0 sD X;have ay:ab<wr.heap.size:=ax;have aQ:=ae (ao.o a (KG P))
     cases a with
     | mx r=>
      obtain⟨aZ,bc,bp,ac,bl,bn,rfl,aB⟩:=Dn ah;have f0:=f 0 _ rfl;have f1:=f 1 _ rfl;have f2:=f 2 _ rfl;have f3:=f 3 _ rfl;have f4:=f 4 _ rfl;have f5:=f 5 _ rfl;have f6:=f 6 _ rfl;simp only[KN] at f0;have U:=ae aB;clear f ah aB P aF ax aw au aR;go_upto_region 17 with(fail);generalize hV:World.alloc _ _=V;have L:=aX hV;have hC:=aK hV;have cj:=ae (a9.trans L);have aa:=ae (E.trans L);have T:=ae (a7.ai L);have al:=ae (D.on U.o (Fr.ext L));have bQ:=ae hC;clear L hC hV a0 ai af a9 E a7 U f0 f1 f2 f3 f4 f5 f6 ay;obtain⟨a0,ai,af⟩:=bQ.two;go_wp2_with(fail);refine(rF r aQ.o _ _ _ _ _ al.o).mono ?_;rintro a6 a5 ⟨rfl,S⟩;have F:=ae (cj.trans S);have aN:=ae (aa.trans S);have N:=ae (T.ai S);have bQ:=ae (bQ.ai S);clear a0 ai af cj aa T;obtain⟨a0,ai,af⟩:=bQ.two;go_wp2_with(fail);refine(iX _ _ _).mono ?_
      exact Gh
     | ex e=>
      obtain⟨bm,bg,M,bf,aZ,bc,am,ac,rfl,aB⟩:=Dl ah;have f0:=f 0 _ rfl;have f1:=f 1 _ rfl;have f2:=f 2 _ rfl;have f3:=f 3 _ rfl;have f4:=f 4 _ rfl;have f5:=f 5 _ rfl;have f6:=f 6 _ rfl;simp only[KN] at f0;have U:=ae aB;clear f ah aB P aF ax aw au aR;go_upto_region 17 with(fail);generalize hV:World.alloc _ _=V;have L:=aX hV;have hC:=aK hV;have cj:=ae (a9.trans L);have aa:=ae (E.trans L);have T:=ae (a7.ai L);have al:=ae (D.on U.o (Fr.ext L));have bQ:=ae hC;clear L hC hV a0 ai af a9 E a7 U f0 f1 f2 f3 f4 f5 f6 ay;obtain⟨a0,ai,af⟩:=bQ.two;go_wp2_with(fail);refine(gM _ _ _).mono ?_;rintro a6 a5 ⟨rfl,S⟩;have F:=ae (cj.trans S);have aN:=ae (aa.trans S);have N:=ae (T.ai S);have bQ:=ae (bQ.ai S);clear a0 ai af cj aa T;obtain⟨a0,ai,af⟩:=bQ.two;go_wp2_with(fail);refine(fA e aQ.o _ _ _ _ _ _ _ (D.on al.o (Fr.ext S))).mono ?_;exact Gh
    .obtain rfl:j=n1:=ad;clear aw au aR
     exact xd
 | lock u r=>
  obtain⟨rfl,rfl,rfl,rfl⟩:=kL z.expr;obtain rfl:0=n1:=z.args.1;obtain rfl:0=n2:=z.th.1;obtain rfl:0=n3:=z.el.1;have aW:=ae (show oo r from ag.o);simp only[aA.kind,aA.name] at *;cases u
  all_goals as_aux_lemma=>
   simp only[Lj,if_false,if_true] at *;go_wp2_with(fail);refine(iX _ _ _).mono ?_;rintro e aD ⟨rfl,he⟩;have bu:=ae (J.trans he);have m:=ae (q.trans he);have G:=ae (x.ai he);clear he a0 ai af J q x;obtain⟨a0,ai,af⟩:=G.two;go_wp2_with(fail);refine(rF r aW.o _ _ _ _ _ (D.on z.ref (Fr.ext m.o))).mono ?_
   exact Gi
 | ite e th el=>
  obtain⟨hex,cv,cb,aL,b9⟩:=ag.o;obtain⟨be,Y,a2⟩:=eh hex aL b9;have Q:=ae (show deep+1+cv<=23 by have:=cw.o;omega);obtain⟨rfl,rfl⟩:=hh z.ref;obtain rfl:0=n1:=z.args.1;clear hex aL b9 cb;simp only[aA.kind,aA.name] at *;as_aux_lemma=>
   go_wp2_with(fail);refine(fA e be.o _ _ _ _ _ _ _ (D.on z.expr (Fr.ext q.o))).mono ?_;rintro e aD ⟨rfl,he⟩;have bu:=ae (J.trans he);have m:=ae (q.trans he);have G:=ae (x.ai he);clear he a0 ai af J q x;obtain⟨a0,ai,af⟩:=G.two;go_wp2_with(fail);refine(gM _ _ _).mono ?_;rintro e aE ⟨rfl,he⟩;have a4:=ae (bu.trans he);have y:=ae (m.trans he);have br:=ae (G.ai he);clear he a0 ai af bu m G;obtain⟨a0,ai,af⟩:=br.two;go_wp2;refine wp_loop_rounds 1 ?_;rw[rounds_succ];go_wp2_with(fail);refine((show FO th from aI.1) cv (deep+1) _ _ _ _ Y.o (KU (Nat.le_add_right _ _) i.o) Q.o (z.th.on (Fr.ext y.o))).mono ?_;rintro e aO ⟨rfl,he⟩;have a9:=ae (a4.trans he);have E:=ae (y.trans he);have a7:=ae (br.ai he);clear he a0 ai af a4 y br;obtain⟨a0,ai,af⟩:=a7.two;by_cases aU:n3=0
   .subst aU;exact xd
   .have dd:decide ((n3:Int) > 0)=true:=by simp;omega
    go_wp2_with(fail);refine((show FO el from aI.2) cv (deep+1) _ _ _ _ a2.o (KU (Nat.le_add_left _ _) i.o) Q.o (z.el.on (Fr.ext E.o))).mono ?_;rintro e bh ⟨rfl,he⟩;have cj:=ae (a9.trans he);have aa:=ae (E.trans he);have T:=ae (a7.ai he);clear he a0 ai af a9 E a7;obtain⟨a0,ai,af⟩:=T.two;go_wp2;go_roundw
    case rel=>exact⟨k+1,ad,by go_num,cj.o⟩
    case measure=>exact aG
 | gv e th=>
  obtain⟨hex,cv,cb,aL⟩:=ag.o;obtain⟨be,Y⟩:=aH hex aL;have Q:=ae (show deep+1+cv<=23 by have:=cw.o;omega);obtain⟨rfl,rfl⟩:=hh z.ref;obtain rfl:0=n1:=z.args.1;obtain rfl:0=n3:=z.el.1;clear hex aL cb;simp only[aA.kind,aA.name] at *;as_aux_lemma=>
   go_wp2_with(fail);refine(fA e be.o _ _ _ _ _ _ _ (D.on z.expr (Fr.ext q.o))).mono ?_;rintro e aD ⟨rfl,he⟩;have bu:=ae (J.trans he);have m:=ae (q.trans he);have G:=ae (x.ai he);clear he a0 ai af J q x;obtain⟨a0,ai,af⟩:=G.two;go_wp2_with(fail);refine(gM _ _ _).mono ?_;rintro e aE ⟨rfl,he⟩;have a4:=ae (bu.trans he);have y:=ae (m.trans he);have br:=ae (G.ai he);clear he a0 ai af bu m G;obtain⟨a0,ai,af⟩:=br.two;go_wp2;refine wp_loop_rounds 1 ?_;rw[rounds_succ];go_wp2_with(fail);refine((show FO th from aI.1) cv (deep+1) _ _ _ _ Y.o (KU (Nat.le_add_right _ _) i.o) Q.o (z.th.on (Fr.ext y.o))).mono ?_;rintro e aO ⟨rfl,he⟩;have a9:=ae (a4.trans he);have E:=ae (y.trans he);have a7:=ae (br.ai he);clear he a0 ai af a4 y br;obtain⟨a0,ai,af⟩:=a7.two
   exact xd
 | ret=>
  obtain⟨rfl,rfl,rfl,rfl⟩:=kL z.expr;obtain⟨rfl,rfl⟩:=hh z.ref;obtain rfl:0=n1:=z.args.1;obtain rfl:0=n2:=z.th.1;obtain rfl:0=n3:=z.el.1;simp only[aA.kind,aA.name] at *;as_aux_lemma=>
   go_wp2_with(fail);refine(iX _ _ _).mono ?_;rintro e aD ⟨rfl,he⟩;have bu:=ae (J.trans he);have m:=ae (q.trans he);have G:=ae (x.ai he);clear he a0 ai af J q x;obtain⟨a0,ai,af⟩:=G.two;go_wp2_with(fail);refine(gM _ _ _).mono ?_;exact Gi
 ):p:=h
end BM
open BM in
theorem sT(b:an)(H:∀s∈b.list,FO s.th/\FO s.el):FO b:=by
 intro d deep A n c w bY K aC hs;have hl:b.list.length=n:=by rw[<-hs.1,cF,KH]
 have hn:n<=1000000:=by have:=eU b;omega
 have a8:deep<=23:=ad;have a3:decide ((deep:Int)>=24)=false:=by simp;omega
 rw[cF] at hs;obtain⟨bo,az⟩:=aH hs H;have aP:=ae (gO b d bY);have aT:=ae (λs (hs:s∈b.list)=>KU (Nat.le_of_lt (iD b s hs)) K);have cw:=ae aC;clear hs H bY K hl aC;go_enter func101,ntmps101;go_wp2;go_loopw [5] (λbd wr=>∃k:Nat,k<=n/\bd=.int .i64 k/\Ext w wr) (λbd _=>n - (intOf bd).toNat)
 case atStart=>exact⟨0,ad,rfl,Ll⟩
 case round=>
  obtain⟨k,ap,rfl,aw⟩:=hrel;have bq:=ae aw;clear aw a3;by_cases ak:k<n
  .obtain⟨bb,o,s,cs,rfl,O,cy,dW,bj,Z⟩:=(bo.on (Fr.ext bq.o)).g0 nh ak;have aV:bb<wr.heap.size:=O;have ag:=ae (aP.o s (KG cy));have aI:=ae (az.o s (KG cy));have i:=ae (aT.o s (KG cy));obtain⟨eo,en,es,EA,em,ec,rs,cc,cI,rc,bU,n1,c1,A2,n2,c2,cC,n3,c3,rfl,P⟩:=k7 dW;exact vf
  .obtain rfl:k=n:=ad;go_wp2;go_ret;exact⟨rfl,bq.o⟩
theorem tY(b:an):FO b:=an.Dc sT b
end Go.Proofs.YtglbpimocmhojaaGreat

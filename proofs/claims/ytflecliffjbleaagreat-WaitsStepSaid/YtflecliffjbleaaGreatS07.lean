/- Part 7 of the proof. No condition of its own. -/
import Derived.Test.YtflecliffjbleaaGreatS06
namespace Go.Proofs.YtflecliffjbleaaGreat
open Go.RowKit Go.Proofs.Tryz
set_option maxRecDepth 1000000
set_option maxHeartbeats 25600000
set_option linter.unusedVariables false
variable{f:aG}{p:bM}
theorem jE:∀(k n:Nat),n<10 ^ (k+1)->(jD n).length<=k+1
 | k,n,h=>by
  rw[jD];split
  .simp
  .cases k with
   | zero=>simp at h;omega
   | succ k=>
    have:=jE k (n / 10) (by rw[Nat.div_lt_iff_lt_mul ad,<-Nat.pow_succ];exact h);simp;omega
 termination_by k=>k
theorem eF{s:List UInt8}(h:bF s=true):s.length<=16:=by
 simp only[bF,LO,Md] at h;exact h.1.2
def fX(aT:List Atom):Nat:=(aV aT).length
theorem bC(aT f:List Atom):fX (aT++f)=fX aT+fX f:=by unfold fX;rw[a9,LD]
theorem bo(a:Atom)(f:List Atom):fX (a::f)=a.bytes.length+fX f:=by unfold fX;rw[a1,LD]
theorem cD:fX []=0:=rfl
theorem cO(c:UInt8)(aT:List Atom):Atom.count (.ws c::aT)=Atom.count aT:=rfl
theorem de(c:List UInt8)(aT:List Atom):Atom.count (.word c::aT)=Atom.count aT+1:=rfl
theorem nG(c:List UInt8)(aT:List Atom):Atom.count (.num c::aT)=Atom.count aT+1:=rfl
theorem cu(c:List UInt8)(aT:List Atom):Atom.count (.sg c::aT)=Atom.count aT+1:=rfl
theorem dY(c:List UInt8)(aT:List Atom):Atom.count (kw c::aT)=Atom.count aT+1:=rfl
theorem count_nil:Atom.count []=0:=rfl
theorem eP(c:UInt8):(Atom.ws c).bytes.length=1:=rfl
theorem eE(c:List UInt8):(Atom.word c).bytes.length=c.length:=rfl
theorem gT(c:List UInt8):(kw c).bytes.length=c.length:=rfl
theorem tb(c:List UInt8):(Atom.num c).bytes.length=c.length:=rfl
theorem ei(c:List UInt8):(Atom.sg c).bytes.length=c.length:=rfl
def cE:Nat->Nat
 | 0=>1
 | d+1=>2*(cE d+2)+1
def bE:Nat->Nat
 | 0=>19
 | d+1=>2*(bE d+2)+4
theorem DW:∀d,1<=cE d
 | 0=>Lz _
 | d+1=>by unfold cE;omega
theorem we:∀d,19<=bE d
 | 0=>Lz _
 | d+1=>by have:=we d;unfold bE;omega
theorem nT(b:Bool)(aT:List Atom):Atom.count (par b aT)<=Atom.count aT+2/\fX (par b aT)<=fX aT+2:=by
 cases b
 .exact⟨by simp[par],by simp[par]⟩
 .simp only[par,if_true,cu,count_append,bo,bC,cD,ei,count_nil,LP,LX];omega
theorem EY(op:Int):(g3 op).length<=2:=by
 unfold g3
 repeat' split
 all_goals decide
theorem dm{N:Ml}(hN:dM N):∀(d:Nat) (x:VE),x.src N d->Atom.count (cq x)<=cE d/\fX (cq x)<=bE d
 | d,.num n,h=>by
  have q:0<=n/\n<4611686018427387904:=by cases d<;>exact h
  have:=jE 18 n.toNat ad;have ac:=DW d;have ax:=we d;simp only[cq,nG,count_nil,bo,cD,tb]
  omega
 | d,.ha s,h=>by
  have q:s∈N:=by cases d<;>exact h
  have:=eF (hN s q);have ac:=DW d;have ax:=we d;simp only[cq,de,count_nil,bo,cD,eE]
  omega
 | d,.loc _,h=>by cases d<;>exact h.elim
 | d,.iK _,h=>by cases d<;>exact h.elim
 | 0,.un _ _,h=>h.elim
 | 0,.bin _ _ _,h=>h.elim
 | d+1,.un op x,h=>by
  have aq:=dm hN d x h.2;have hp:=nT (dE op (a2 x) false) (cq x);have hs:(if op=3 then [45] else [33]:List UInt8).length=1:=by split<;>rfl
  simp only[cq,cu,bo,ei,hs,cE,bE]
  omega
 | d+1,.bin op x y,h=>by
  have i:=dm hN d x h.2.1;have c:=dm hN d y h.2.2;have hp:=nT (dE op (a2 x) false) (cq x);have bv:=nT (dE op (a2 y) true) (cq y);have hs:=EY op;simp only[cq,count_append,cO,cu,bC,bo,eP,ei,cE,bE];omega
section
variable {G:Env} {V:Ml} (hV:dM V) (hG:og G)
include hV hG
theorem mK(r:eW)(h:su G V r):Atom.count (iD r)<=22/\fX (iD r)<=118:=by
 have hn:bF r.name.data.toList=true:=by
  rcases h with⟨m,hm,he,_⟩|⟨hp,_⟩
  .rw[<-he];exact hG.af m hm
  .exact hG.params _ hp
 have hl:=eF hn;unfold iD
 cases al:r.idx with
 | none=>
  exact Aq
 | some e=>
  have hs:e.src V 2:=by
   exact Hg
  have aq:=dm hV 2 e hs;simp only[cE,bE] at aq;simp only[de,cu,count_append,count_nil,bo,bC,cD,eE,ei,LP,LX];omega
theorem mJ(p:ByteArray×Bool)(a:dj)(h:JQ G V p a):Atom.count (fP a)<=23/\fX (fP a)<=124:=by
 cases a with
 | ex e=>
  have aq:=dm hV 2 e h.2;simp only[cE,bE] at aq;show Atom.count (cq e)<=23/\fX (cq e)<=124
  omega
 | mx r=>
  have aq:=mK hV hG r h.2;simp only[fP,dY,cO,bo,gT,eP];have:ga.length=5:=rfl;omega
theorem oD:∀(ps:List (ByteArray×Bool)) (aT:List dj),iX G V ps aT->Atom.count (eh (aT.map fP))<=24*ps.length/\fX (eh (aT.map fP))<=126*ps.length
 | [],[],_=>⟨Lz _,Lz _⟩
 | [p],[a],h=>by
  have:=mJ hV hG p a h.1;simp only[LI,L4,eh,LP,LX]
  omega
 | p::q::ps,a::b::aT,h=>by
  have ac:=mJ hV hG p a h.1;have aq:=oD (q::ps) (b::aT) h.2;simp only[LI] at aq;simp only[LI,eh,count_append,cu,cO,bC,bo,ei,eP,LP,LX] at aq ⊢
  omega
 | [],_::_,h=>h.elim
 | _::_,[],h=>h.elim
 | [_],_::_::_,h=>h.2.elim
 | _::_::_,[_],h=>h.2.elim
theorem rn(ps:List (ByteArray×Bool))(aT:List dj)(h:iX G V ps aT)(hp:ps.length<=2):Atom.count (jd aT)<=50/\fX (jd aT)<=254:=by
 have:=oD hV hG ps aT h;simp only[jd,cu,count_append,count_nil,bo,bC,cD,ei,LP,LX];omega
end
theorem g6(t:Nat):Atom.count (fK t)=0/\fX (fK t)=t:=by
 induction t with
 | zero=>exact⟨rfl,rfl⟩
 | succ t aq=>
  have e:fK (t+1)=.ws 9::fK t:=rfl;rw[e,cO,bo,eP];omega
theorem c6{G:Env}(hG:og G):∀(b:al) (d t:Nat) (V T:Ml),dM V->t+d<=8->fk G d V T b->Atom.count (aW t b)<=53*b.num/\fX (aW t b)<=400*b.num
 | .nil,d,t,V,T,_,_,_=>⟨Lz _,Lz _⟩
 | .set v n e rest,d,t,V,T,hV,ht,h=>by
  have ct:=g6 t
  cases v with
  | true=>
   have q:bF n.data.toList=true/\n∉T/\e.src V 2/\fk G d (V++[n]) (T++[n]) rest:=by cases d<;>exact h
   have aq:=c6 hG rest d t _ _ (j9 hV q.1) ht q.2.2.2;have aF:=dm hV 2 e q.2.2.1;have hn:=eF q.1;simp only[cE,bE] at aF;simp only[aW,if_true,count_append,dY,cO,de,cu,count_nil,bC,bo,cD,gT,eP,eE,ei,al.num,LP,LX]
   omega
  | false=>
   have q:n∈V/\e.src V 2/\fk G d V T rest:=by cases d<;>exact h
   have aq:=c6 hG rest d t _ _ hV ht q.2.2;have aF:=dm hV 2 e q.2.1;have hn:=eF (hV n q.1);simp only[cE,bE] at aF;simp only[aW,Me,if_false,count_append,cO,de,cu,count_nil,bC,bo,cD,eP,eE,ei,al.num,LP,LX]
   omega
 | .call g n aT rest,d,t,V,T,hV,ht,h=>by
  have ct:=g6 t;have q:(∃ps,(n,ps)∈G.funcs/\iX G V ps aT)/\fk G d V T rest:=by cases d<;>exact h
  obtain⟨⟨ps,J,has⟩,a9⟩:=q;have aq:=c6 hG rest d t _ _ hV ht a9;have bO:=rn hV hG ps aT has (hG.funcs _ J).2;have hn:=eF (hG.funcs _ J).1;cases g<;>
  .simp only[aW,Me,if_false,if_true,count_append,dY,cO,de,cu,count_nil,bC,bo,cD,gT,eP,eE,ei,al.num,LP,LX];simp only[] at hn
   omega
 | .lock u r rest,d,t,V,T,hV,ht,h=>by
  have ct:=g6 t;have q:su G V r/\fk G d V T rest:=by cases d<;>exact h
  have aq:=c6 hG rest d t _ _ hV ht q.2;have cB:=mK hV hG r q.1;cases u<;>
  .simp only[aW,Me,if_false,if_true,count_append,dY,cO,cu,bC,bo,gT,eP,ei,al.num,LP,LX]
   omega
 | .ite e th el rest,0,t,V,T,hV,ht,h=>h.elim
 | .gG e th rest,0,t,V,T,hV,ht,h=>h.elim
 | .ite e th el rest,d+1,t,V,T,hV,ht,h=>by
  have ct:=g6 t;have j:=c6 hG th d (t+1) _ _ hV ad h.2.1;have o:=c6 hG el d (t+1) _ _ hV ad h.2.2.1;have aq:=c6 hG rest (d+1) t _ _ hV ht h.2.2.2;have aF:=dm hV 2 e h.1;simp only[cE,bE] at aF;cases hn:el.isNil<;>
  .simp only[aW,hn,Me,if_false,if_true,LR,L8,count_append,dY,cO,cu,count_nil,bC,bo,cD,gT,eP,ei,al.num,LP,LX]
   omega
 | .gG e th rest,d+1,t,V,T,hV,ht,h=>by
  have ct:=g6 t;have j:=c6 hG th d (t+1) _ _ hV ad h.2.1;have aq:=c6 hG rest (d+1) t _ _ hV ht h.2.2;have aF:=dm hV 2 e h.1;simp only[cE,bE] at aF;simp only[aW,count_append,dY,cO,cu,bC,bo,gT,eP,ei,al.num,LP,LX]
  omega
 | .ret rest,d,t,V,T,hV,ht,h=>by
  have ct:=g6 t;have q:fk G d V T rest:=by cases d<;>exact h
  have aq:=c6 hG rest d t _ _ hV ht q;simp only[aW,count_append,dY,cO,cu,bC,bo,gT,eP,ei,al.num,LP,LX];omega
def h3(n:Int):List Atom:=if n<0 then [.sg [45],.num (jD n.natAbs)] else [.num (jD n.toNat)]
def h1(g:ByteArray×Int):List Atom:=kw [118,97,114]::.ws 32::.word g.1.data.toList::((if g.2=0 then [] else .ws 32::.sg [61]::.ws 32::h3 g.2)++[.sg [59],.ws 10])
def h2(m:bL):List Atom:=kw (if m.re then [114,109,117,116,101,120] else ga)::.ws 32::.word m.name.data.toList::((if 0<m.size then .sg [91]::(h3 m.size++[.sg [93]]) else [])++[.sg [59],.ws 10])
def gR(p:ByteArray×Bool):List Atom:=if p.2 then [kw ga,.ws 32,.word p.1.data.toList] else [.word p.1.data.toList]
def hZ(f:aG):List Atom:=kw [102,117,110,99]::.ws 32::.word f.name.data.toList::.sg [40]::(eh (f.params.map gR)++(.sg [41]::.ws 32::.sg [123]::.ws 10::(aW 1 f.body++[.sg [125],.ws 10])))
def fQ(p:bM):List Atom:=p.globals.flatMap h1++(p.af.flatMap h2++p.funcs.flatMap hZ)
def fW(p:bM):List ByteArray:=p.globals.map (·.1)
def bh(p:bM):List ByteArray:=fW p++p.af.map (·.name)++p.funcs.map (·.name)
def sigs(p:bM):List (ByteArray×List (ByteArray×Bool)):=p.funcs.map λf=>(f.name,f.params)
def gN(p:bM)(f:aG):Env:=⟨p.af,f.params,sigs p⟩
def cC(ps:List (ByteArray×Bool)):List ByteArray:=(ps.filter λq=>!q.2).map (·.1)
structure Li(p:bM)(f:aG):Prop where
 params:∀q∈f.params,bF q.1.data.toList=true
 jf:f.params.length<=2
 fresh:(bh p++f.params.map (·.1)).Nodup
 body:fk (gN p f) 4 (fW p++cC f.params) (bh p++f.params.map (·.1)) f.body
structure pB(p:bM):Prop where
 names:∀s∈bh p,bF s.data.toList=true
 nodup:(bh p).Nodup
 qA:p.globals.length<=16
 zh:p.af.length<=12
 F9:p.funcs.length<=16
 inits:∀g∈p.globals,-9223372036854775807<=g.2/\g.2<=9223372036854775807
 gO:∀m∈p.af,0<=m.size/\m.size<=64/\(m.re=true->m.size=0)
 funcs:∀f∈p.funcs,Li p f
 main:∃(i:Nat) (f:aG),p.funcs[i]?=some f/\f.name=⟨#[109,97,105,110]⟩/\f.params=[]
 jf:(p.funcs.map λf=>f.body.num).sum<=64
theorem pB.env(h:pB p)(J:f∈p.funcs):og (gN p f) where
 af:=λm hm=>h.names _ (by simp only[bh,LL,L5];exact .inl (.inr ⟨m,hm,rfl⟩))
 params:=(h.funcs f J).params
 funcs:=λg aY=>by
  obtain⟨k,aj,rfl⟩:=L5.1 aY;exact⟨h.names _ (by simp only[bh,LL,L5];exact .inr ⟨k,aj,rfl⟩),(h.funcs k aj).jf⟩
theorem pB.vars(h:pB p)(J:f∈p.funcs):dM (fW p++cC f.params):=by
 intro s hs;rcases LL.1 hs with hs|hs
 .exact h.names _ (by simp only[bh,LL];exact .inl (.inl hs))
 .obtain⟨q,bv,rfl⟩:=L5.1 hs;exact(h.funcs f J).params q (List.mem_filter.1 bv).1
theorem j5{α:Type}(f:α->List Atom):∀(l:List α),(∀x∈l,h4 (f x))->h4 (l.flatMap f)
 | [],_=>⟨trivial,λa h=>by simp at h⟩
 | x::l,h=>by
  have aq:=j5 f l λy bb=>h y (by simp[bb]);have hx:=h x (by simp);refine⟨hx.app aq.1,λa br=>?_⟩;rw[LY,List.getLast?_append] at br
  cases hl:(l.flatMap f).getLast? with
  | none=>rw[hl] at br;exact hx.2 a (by simpa using br)
  | some b=>
   rw[hl] at br;simp at br;subst br;exact aq.2 b hl
theorem j6{α:Type}(f:α->List Atom)(g:α->Nat)(c k:Nat):∀(l:List α),(∀x∈l,Atom.count (f x)<=c+53*g x/\fX (f x)<=k+400*g x)->
  Atom.count (l.flatMap f)<=c*l.length+53*(l.map g).sum/\fX (l.flatMap f)<=k*l.length+400*(l.map g).sum
 | [],_=>⟨by simp[count_nil],by simp[cD]⟩
 | x::l,h=>by
  have aq:=j6 f g c k l λy bb=>h y (by simp[bb]);have hx:=h x (by simp);simp only[LY,count_append,bC,LP,LI,List.sum_cons,Nat.mul_add,Nat.mul_one];omega
theorem II{α:Type}(l:List α):(l.map λ_=>0).sum=0:=by induction l<;>simp_all
theorem pV(n:Int)(h:-9223372036854775807<=n/\n<=9223372036854775807):lM (h3 n)/\Atom.count (h3 n)<=2/\fX (h3 n)<=20:=by
 unfold h3;split
 .have aY:=qC (n:=n.natAbs) ad;have hl:=jE 18 n.natAbs ad;refine⟨Fe (.inl rfl) ⟨aY,⟨_,rfl,.inl ⟨rfl,aY⟩⟩,⟨_,rfl,.inl rfl⟩⟩,?_,?_⟩
  .simp only[cu,nG,count_nil];omega
  .simp only[bo,cD,ei,tb,LP,LX];omega
 .have aY:=qC (n:=n.toNat) ad;have hl:=jE 18 n.toNat ad;refine⟨⟨aY,⟨_,rfl,.inl ⟨rfl,aY⟩⟩,⟨_,rfl,.inl rfl⟩⟩,?_,?_⟩
  .simp only[nG,count_nil];omega
  .simp only[bo,cD,tb];omega
theorem Gw:Atom.chain [.sg [59],.ws 10]:=b9 (cn (.inl (by decide))) rfl rfl
theorem rJ(g:ByteArray×Int)(hn:bF g.1.data.toList=true)(h:-9223372036854775807<=g.2/\g.2<=9223372036854775807):h4 (h1 g)/\Atom.count (h1 g)<=6/\fX (h1 g)<=50:=by
 have hl:=eF hn;obtain⟨aG,hc,O⟩:=pV g.2 h;have aj:(kw [118,97,114]).gk:=fN (by decide);refine⟨⟨?_,λa br=>?_⟩,?_⟩
 .unfold h1;refine b9 aj rfl (c9 rfl ?_);split
  .exact iE (dH hn) rfl Gw
  .exact b9 (dH hn) rfl (c9 rfl (b9 (cn (.inl (by decide))) rfl (c9 rfl (fo aG (.inr (.inr (.inl rfl))) Gw))))
 .unfold h1 at br;exact z9
 .unfold h1;have a1:([118,97,114]:List UInt8).length=3:=rfl;split
  .simp only[L8,dY,cO,de,cu,count_nil,bo,cD,gT,eP,eE,ei,LP,LX];omega
  .simp only[LR,dY,cO,de,cu,count_append,count_nil,bo,bC,cD,gT,eP,eE,ei,LP,LX];omega
theorem rK(m:bL)(hn:bF m.name.data.toList=true)(h:0<=m.size/\m.size<=64):h4 (h2 m)/\Atom.count (h2 m)<=7/\fX (h2 m)<=50:=by
 have hl:=eF hn;obtain⟨aG,hc,O⟩:=pV m.size ad;have aj:(kw (if m.re then [114,109,117,116,101,120] else ga)).gk:=fN (by split<;>decide);have bN:(if m.re then [114,109,117,116,101,120] else ga:List UInt8).length<=6:=by split<;>decide
 refine⟨⟨?_,λa br=>?_⟩,?_⟩
 .unfold h2;refine b9 aj rfl (c9 rfl ?_);split
  .simp only[LR,LQ];refine iE (dH hn) rfl (pa (.inr rfl) aG (fo aG (.inr (.inl rfl)) (cV (cn (.inl (by decide))) Gw λb O=>?_)));simp at O;subst O;exact pe _ (.inr (.inr rfl)) _ (.inr (.inr (.inl rfl)))
  .exact iE (dH hn) rfl Gw
 .unfold h2 at br;exact z9
 .unfold h2;generalize (if m.re then [114,109,117,116,101,120] else ga:List UInt8)=s at *;split
  .simp only[LR,dY,cO,de,cu,count_append,count_nil,bo,bC,cD,gT,eP,eE,ei,LP,LX];omega
  .simp only[L8,dY,cO,de,cu,count_nil,bo,cD,gT,eP,eE,ei,LP,LX];omega
theorem nC(p:ByteArray×Bool)(hn:bF p.1.data.toList=true):lM (gR p)/\Atom.count (gR p)<=2/\fX (gR p)<=22:=by
 have hl:=eF hn;have hw:=dH hn;have aj:(kw ga).gk:=fN (by decide);have cy:ga.length=5:=rfl;unfold gR;split
 .refine⟨⟨b9 aj rfl (c9 rfl hw),⟨_,rfl,.inl ⟨rfl,aj⟩⟩,⟨_,rfl,.inl rfl⟩⟩,?_⟩;simp only[dY,cO,de,count_nil,bo,cD,gT,eP,eE];omega
 .refine⟨⟨hw,⟨_,rfl,.inl ⟨rfl,hw⟩⟩,⟨_,rfl,.inl rfl⟩⟩,?_⟩;exact Aq
theorem oE:∀(l:List (ByteArray×Bool)),(∀q∈l,bF q.1.data.toList=true)->Atom.count (eh (l.map gR))<=3*l.length/\fX (eh (l.map gR))<=24*l.length
 | [],_=>⟨Lz _,Lz _⟩
 | [p],h=>by
  have:=(nC p (h p (by simp))).2;simp only[LI,L4,eh,LP,LX]
  omega
 | p::q::l,h=>by
  have ac:=(nC p (h p (by simp))).2;have aq:=oE (q::l) λx hx=>h x (by simp[hx]);simp only[LI] at aq;simp only[LI,eh,count_append,cu,cO,bC,bo,ei,eP,LP,LX] at aq ⊢;omega
theorem rI(hp:pB p)(J:f∈p.funcs):h4 (hZ f)/\Atom.count (hZ f)<=13+53*f.body.num/\fX (hZ f)<=80+400*f.body.num:=by
 have hF:=hp.funcs f J;have hn:bF f.name.data.toList=true:=hp.names _ (by simp only[bh,LL,L5];exact .inr ⟨f,J,rfl⟩);have hl:=eF hn;have hc:=c5 (hp.env J) f.body 4 1 _ _ (hp.vars J) hF.body;have aj:=c6 (hp.env J) f.body 4 1 _ _ (hp.vars J) ad hF.body;have bv:=oE f.params hF.params;have L:=hF.jf;have k:(Atom.sg [123]).gk:=cn (.inl (by decide));have i:Atom.chain [.sg [125],.ws 10]:=b9 (cn (.inl (by decide))) rfl rfl;have e1:h4 (aW 1 f.body):=⟨hc,dR f.body 1⟩
 have tail:Atom.chain (.sg [41]::.ws 32::.sg [123]::.ws 10::(aW 1 f.body++[.sg [125],.ws 10])):=
  b9 (cn (.inl (by decide))) rfl (c9 rfl (b9 k rfl (c9 rfl (e1.app i))))
 refine⟨⟨?_,λa br=>?_⟩,?_⟩
 .unfold hZ;refine b9 (fN (by decide)) rfl (c9 rfl (iE (dH hn) rfl ?_))
  cases cl:f.params with
  | nil=>
   refine cV (cn (.inl (by decide))) tail λb O=>?_
   exact Hl
  | cons q l=>
   have hs:lM (eh ((q::l).map gR)):=nM _ (λa br=>by
    obtain⟨x,hx,rfl⟩:=L5.1 br;exact(nC x (hF.params x (by rw[cl];exact hx))).1) (by simp)
   exact pa (.inl rfl) hs (fo hs (.inl rfl) tail)
 .unfold hZ at br;exact(lN.cons (.cons (.cons (.cons (.app (.cons (.cons (.cons (.cons (.app (.cons (.nl (l:=[]) λa h=>by simp at h)))))))))))).2 a br
 .have aU:([102,117,110,99]:List UInt8).length=4:=rfl;simp only[hZ,dY,cO,de,cu,count_append,count_nil,bo,bC,cD,gT,eP,eE,ei,LP,LX];omega
theorem uM(hp:pB p):(ez (aV (fQ p))).2.2=0:=by
 have aY:∀g∈p.globals,bF g.1.data.toList=true:=λg h=>hp.names _ (by simp only[bh,fW,LL,L5];exact .inl (.inl ⟨g,h,rfl⟩));have hm:∀m∈p.af,bF m.name.data.toList=true:=λm h=>hp.names _ (by simp only[bh,LL,L5];exact .inl (.inr ⟨m,h,rfl⟩));have c1:=j5 h1 p.globals λg h=>(rJ g (aY g h) (hp.inits g h)).1;have c2:=j5 h2 p.af λm h=>(rK m (hm m h) ⟨(hp.gO m h).1,(hp.gO m h).2.1⟩).1;have c3:=j5 hZ p.funcs λf h=>(rI hp h).1;have cv:=j6 h1 (λ_=>0) 6 50 p.globals λg h=>by have:=(rJ g (aY g h) (hp.inits g h)).2;omega
 have bR:=j6 h2 (λ_=>0) 7 50 p.af λm h=>by have:=(rK m (hm m h) ⟨(hp.gO m h).1,(hp.gO m h).2.1⟩).2;omega
 have cR:=j6 hZ (λf=>f.body.num) 13 80 p.funcs λf h=>(rI hp h).2;rw[II] at cv bR;have n1:=hp.qA;have n2:=hp.zh;have n3:=hp.F9;have n4:=hp.jf;have hlen:(aV (fQ p)).length<=262144:=by
  have:fX (fQ p)=fX (p.globals.flatMap h1)+(fX (p.af.flatMap h2)+fX (p.funcs.flatMap hZ)):=by unfold fQ;rw[bC,bC]
  unfold fX at this cv bR cR;omega
 unfold ez;rw[if_neg ad];refine wG (fQ p) _ _ [] ?_ (Nat.lt_succ_self _) ?_
 .exact c1.app (c2.app c3.1)
 .unfold fQ;rw[count_append,count_append];simp only[LX];omega
end Go.Proofs.YtflecliffjbleaaGreat

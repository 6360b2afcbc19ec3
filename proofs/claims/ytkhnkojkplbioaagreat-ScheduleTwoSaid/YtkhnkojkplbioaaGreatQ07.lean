/- Part 7 of the proof. No condition of its own. -/
import Derived.Test.YtkhnkojkplbioaaGreatQ06
namespace Go.Proofs.YtkhnkojkplbioaaGreat
open Go.RowKit Go.Proofs.Tryz
set_option maxRecDepth 1000000
set_option maxHeartbeats 25600000
set_option linter.unusedVariables false
variable{f:aK}{p:bP}
theorem jz:∀(k n:Nat),n<10 ^ (k+1)->(jy n).length<=k+1
 | k,n,h=>by
  rw[jy];split
  .simp
  .cases k with
   | zero=>simp at h;omega
   | succ k=>
    have:=jz k (n / 10) (by rw[Nat.div_lt_iff_lt_mul ad,<-Nat.pow_succ];exact h);simp;omega
 termination_by k=>k
theorem eF{s:List UInt8}(h:bH s=true):s.length<=16:=by
 simp only[bH,Lw,LR] at h;exact h.1.2
def fM(aV:List Atom):Nat:=(aY aV).length
theorem bG(aV f:List Atom):fM (aV++f)=fM aV+fM f:=by unfold fM;rw[bh,Lm]
theorem bs(a:Atom)(f:List Atom):fM (a::f)=a.bytes.length+fM f:=by unfold fM;rw[bf,Lm]
theorem cD:fM []=0:=rfl
theorem cQ(c:UInt8)(aV:List Atom):Atom.count (.ws c::aV)=Atom.count aV:=rfl
theorem dc(c:List UInt8)(aV:List Atom):Atom.count (.word c::aV)=Atom.count aV+1:=rfl
theorem nC(c:List UInt8)(aV:List Atom):Atom.count (.num c::aV)=Atom.count aV+1:=rfl
theorem cu(c:List UInt8)(aV:List Atom):Atom.count (.sg c::aV)=Atom.count aV+1:=rfl
theorem dW(c:List UInt8)(aV:List Atom):Atom.count (kw c::aV)=Atom.count aV+1:=rfl
theorem count_nil:Atom.count []=0:=rfl
theorem eN(c:UInt8):(Atom.ws c).bytes.length=1:=rfl
theorem eE(c:List UInt8):(Atom.word c).bytes.length=c.length:=rfl
theorem gO(c:List UInt8):(kw c).bytes.length=c.length:=rfl
theorem tp(c:List UInt8):(Atom.num c).bytes.length=c.length:=rfl
theorem eg(c:List UInt8):(Atom.sg c).bytes.length=c.length:=rfl
def cE:Nat->Nat
 | 0=>1
 | d+1=>2*(cE d+2)+1
def bE:Nat->Nat
 | 0=>19
 | d+1=>2*(bE d+2)+4
theorem D0:∀d,1<=cE d
 | 0=>Lk _
 | d+1=>by unfold cE;omega
theorem wi:∀d,19<=bE d
 | 0=>Lk _
 | d+1=>by have:=wi d;unfold bE;omega
theorem nM(b:Bool)(aV:List Atom):Atom.count (par b aV)<=Atom.count aV+2/\fM (par b aV)<=fM aV+2:=by
 cases b
 .exact⟨by simp[par],by simp[par]⟩
 .simp only[par,if_true,cu,count_append,bs,bG,cD,eg,count_nil,Lx,LG];omega
theorem E1(op:Int):(gW op).length<=2:=by
 unfold gW
 repeat' split
 all_goals decide
theorem di{N:L4}(hN:dM N):∀(d:Nat) (x:VE),x.src N d->Atom.count (cq x)<=cE d/\fM (cq x)<=bE d
 | d,.num n,h=>by
  have F:0<=n/\n<4611686018427387904:=by cases d<;>exact h
  have:=jz 18 n.toNat ad;have ac:=D0 d;have au:=wi d;simp only[cq,nC,count_nil,bs,cD,tp]
  omega
 | d,.g7 s,h=>by
  have F:s∈N:=by cases d<;>exact h
  have:=eF (hN s F);have ac:=D0 d;have au:=wi d;simp only[cq,dc,count_nil,bs,cD,eE]
  omega
 | d,.loc _,h=>by cases d<;>exact h.elim
 | d,.iF _,h=>by cases d<;>exact h.elim
 | 0,.un _ _,h=>h.elim
 | 0,.bin _ _ _,h=>h.elim
 | d+1,.un op x,h=>by
  have ao:=di hN d x h.2;have hp:=nM (dF op (bg x) false) (cq x);have hs:(if op=3 then [45] else [33]:List UInt8).length=1:=by split<;>rfl
  simp only[cq,cu,bs,eg,hs,cE,bE]
  omega
 | d+1,.bin op x y,h=>by
  have i:=di hN d x h.2.1;have c:=di hN d y h.2.2;have hp:=nM (dF op (bg x) false) (cq x);have bA:=nM (dF op (bg y) true) (cq y);have hs:=E1 op;simp only[cq,count_append,cQ,cu,bG,bs,eN,eg,cE,bE];omega
section
variable {G:Env} {V:L4} (hV:dM V) (hG:n7 G)
include hV hG
theorem mD(r:eS)(h:su G V r):Atom.count (iz r)<=22/\fM (iz r)<=118:=by
 have hn:bH r.name.data.toList=true:=by
  rcases h with⟨m,hm,he,_⟩|⟨hp,_⟩
  .rw[<-he];exact hG.af m hm
  .exact hG.params _ hp
 have hl:=eF hn;unfold iz
 cases an:r.idx with
 | none=>
  exact An
 | some e=>
  have hs:e.src V 2:=by
   exact Hd
  have ao:=di hV 2 e hs;simp only[cE,bE] at ao;simp only[dc,cu,count_append,count_nil,bs,bG,cD,eE,eg,Lx,LG];omega
theorem mC(p:ByteArray×Bool)(a:ds)(h:JC G V p a):Atom.count (fG a)<=23/\fM (fG a)<=124:=by
 cases a with
 | ex e=>
  have ao:=di hV 2 e h.2;simp only[cE,bE] at ao;show Atom.count (cq e)<=23/\fM (cq e)<=124
  omega
 | mx r=>
  have ao:=mD hV hG r h.2;simp only[fG,dW,cQ,bs,gO,eN];have:fQ.length=5:=rfl;omega
theorem oo:∀(ps:List (ByteArray×Bool)) (aV:List ds),iR G V ps aV->Atom.count (ef (aV.map fG))<=24*ps.length/\fM (ef (aV.map fG))<=126*ps.length
 | [],[],_=>⟨Lk _,Lk _⟩
 | [p],[a],h=>by
  have:=mC hV hG p a h.1;simp only[Lq,LK,ef,Lx,LG]
  omega
 | p::q::ps,a::b::aV,h=>by
  have ac:=mC hV hG p a h.1;have ao:=oo (q::ps) (b::aV) h.2;simp only[Lq] at ao;simp only[Lq,ef,count_append,cu,cQ,bG,bs,eg,eN,Lx,LG] at ao ⊢
  omega
 | [],_::_,h=>h.elim
 | _::_,[],h=>h.elim
 | [_],_::_::_,h=>h.2.elim
 | _::_::_,[_],h=>h.2.elim
theorem rp(ps:List (ByteArray×Bool))(aV:List ds)(h:iR G V ps aV)(hp:ps.length<=2):Atom.count (iY aV)<=50/\fM (iY aV)<=254:=by
 have:=oo hV hG ps aV h;simp only[iY,cu,count_append,count_nil,bs,bG,cD,eg,Lx,LG];omega
end
theorem gZ(t:Nat):Atom.count (fC t)=0/\fM (fC t)=t:=by
 induction t with
 | zero=>exact⟨rfl,rfl⟩
 | succ t ao=>
  have e:fC (t+1)=.ws 9::fC t:=rfl;rw[e,cQ,bs,eN];omega
theorem c4{G:Env}(hG:n7 G):∀(b:an) (d t:Nat) (V T:L4),dM V->t+d<=8->e6 G d V T b->Atom.count (aZ t b)<=53*b.num/\fM (aZ t b)<=400*b.num
 | .nil,d,t,V,T,_,_,_=>⟨Lk _,Lk _⟩
 | .set v n e rest,d,t,V,T,hV,ht,h=>by
  have cx:=gZ t
  cases v with
  | true=>
   have F:bH n.data.toList=true/\n∉T/\e.src V 2/\e6 G d (V++[n]) (T++[n]) rest:=by cases d<;>exact h
   have ao:=c4 hG rest d t _ _ (j5 hV F.1) ht F.2.2.2;have aw:=di hV 2 e F.2.2.1;have hn:=eF F.1;simp only[cE,bE] at aw;simp only[aZ,if_true,count_append,dW,cQ,dc,cu,count_nil,bG,bs,cD,gO,eN,eE,eg,an.num,Lx,LG]
   omega
  | false=>
   have F:n∈V/\e.src V 2/\e6 G d V T rest:=by cases d<;>exact h
   have ao:=c4 hG rest d t _ _ hV ht F.2.2;have aw:=di hV 2 e F.2.1;have hn:=eF (hV n F.1);simp only[cE,bE] at aw;simp only[aZ,LS,if_false,count_append,cQ,dc,cu,count_nil,bG,bs,cD,eN,eE,eg,an.num,Lx,LG]
   omega
 | .call g n aV rest,d,t,V,T,hV,ht,h=>by
  have cx:=gZ t;have F:(∃ps,(n,ps)∈G.funcs/\iR G V ps aV)/\e6 G d V T rest:=by cases d<;>exact h
  obtain⟨⟨ps,J,has⟩,ba⟩:=F;have ao:=c4 hG rest d t _ _ hV ht ba;have aX:=rp hV hG ps aV has (hG.funcs _ J).2;have hn:=eF (hG.funcs _ J).1;cases g<;>
  .simp only[aZ,LS,if_false,if_true,count_append,dW,cQ,dc,cu,count_nil,bG,bs,cD,gO,eN,eE,eg,an.num,Lx,LG];simp only[] at hn
   omega
 | .lock u r rest,d,t,V,T,hV,ht,h=>by
  have cx:=gZ t;have F:su G V r/\e6 G d V T rest:=by cases d<;>exact h
  have ao:=c4 hG rest d t _ _ hV ht F.2;have cB:=mD hV hG r F.1;cases u<;>
  .simp only[aZ,LS,if_false,if_true,count_append,dW,cQ,cu,bG,bs,gO,eN,eg,an.num,Lx,LG]
   omega
 | .ite e th el rest,0,t,V,T,hV,ht,h=>h.elim
 | .gz e th rest,0,t,V,T,hV,ht,h=>h.elim
 | .ite e th el rest,d+1,t,V,T,hV,ht,h=>by
  have cx:=gZ t;have j:=c4 hG th d (t+1) _ _ hV ad h.2.1;have l:=c4 hG el d (t+1) _ _ hV ad h.2.2.1;have ao:=c4 hG rest (d+1) t _ _ hV ht h.2.2.2;have aw:=di hV 2 e h.1;simp only[cE,bE] at aw;cases hn:el.isNil<;>
  .simp only[aZ,hn,LS,if_false,if_true,Lz,LN,count_append,dW,cQ,cu,count_nil,bG,bs,cD,gO,eN,eg,an.num,Lx,LG]
   omega
 | .gz e th rest,d+1,t,V,T,hV,ht,h=>by
  have cx:=gZ t;have j:=c4 hG th d (t+1) _ _ hV ad h.2.1;have ao:=c4 hG rest (d+1) t _ _ hV ht h.2.2;have aw:=di hV 2 e h.1;simp only[cE,bE] at aw;simp only[aZ,count_append,dW,cQ,cu,bG,bs,gO,eN,eg,an.num,Lx,LG]
  omega
 | .ret rest,d,t,V,T,hV,ht,h=>by
  have cx:=gZ t;have F:e6 G d V T rest:=by cases d<;>exact h
  have ao:=c4 hG rest d t _ _ hV ht F;simp only[aZ,count_append,dW,cQ,cu,bG,bs,gO,eN,eg,an.num,Lx,LG];omega
def hP(n:Int):List Atom:=if n<0 then [.sg [45],.num (jy n.natAbs)] else [.num (jy n.toNat)]
def hL(g:ByteArray×Int):List Atom:=kw [118,97,114]::.ws 32::.word g.1.data.toList::((if g.2=0 then [] else .ws 32::.sg [61]::.ws 32::hP g.2)++[.sg [59],.ws 10])
def hO(m:bD):List Atom:=kw (if m.re then [114,109,117,116,101,120] else fQ)::.ws 32::.word m.name.data.toList::((if 0<m.size then .sg [91]::(hP m.size++[.sg [93]]) else [])++[.sg [59],.ws 10])
def gL(p:ByteArray×Bool):List Atom:=if p.2 then [kw fQ,.ws 32,.word p.1.data.toList] else [.word p.1.data.toList]
def hJ(f:aK):List Atom:=kw [102,117,110,99]::.ws 32::.word f.name.data.toList::.sg [40]::(ef (f.params.map gL)++(.sg [41]::.ws 32::.sg [123]::.ws 10::(aZ 1 f.body++[.sg [125],.ws 10])))
def fH(p:bP):List Atom:=p.globals.flatMap hL++(p.af.flatMap hO++p.funcs.flatMap hJ)
def fu(p:bP):List ByteArray:=p.globals.map (·.1)
def bk(p:bP):List ByteArray:=fu p++p.af.map (·.name)++p.funcs.map (·.name)
def sigs(p:bP):List (ByteArray×List (ByteArray×Bool)):=p.funcs.map λf=>(f.name,f.params)
def h3(p:bP)(f:aK):Env:=⟨p.af,f.params,sigs p⟩
def cw(ps:List (ByteArray×Bool)):List ByteArray:=(ps.filter λq=>!q.2).map (·.1)
structure K3(p:bP)(f:aK):Prop where
 params:∀q∈f.params,bH q.1.data.toList=true
 jF:f.params.length<=2
 fresh:(bk p++f.params.map (·.1)).Nodup
 body:e6 (h3 p f) 4 (fu p++cw f.params) (bk p++f.params.map (·.1)) f.body
structure oR(p:bP):Prop where
 names:∀s∈bk p,bH s.data.toList=true
 nodup:(bk p).Nodup
 ou:p.globals.length<=16
 wV:p.af.length<=12
 EG:p.funcs.length<=16
 inits:∀g∈p.globals,-9223372036854775807<=g.2/\g.2<=9223372036854775807
 fB:∀m∈p.af,0<=m.size/\m.size<=64/\(m.re=true->m.size=0)
 funcs:∀f∈p.funcs,K3 p f
 main:∃(i:Nat) (f:aK),p.funcs[i]?=some f/\f.name=⟨#[109,97,105,110]⟩/\f.params=[]
 jF:(p.funcs.map λf=>f.body.num).sum<=64
theorem oR.env(h:oR p)(J:f∈p.funcs):n7 (h3 p f) where
 af:=λm hm=>h.names _ (by simp only[bk,Lt,LL];exact .inl (.inr ⟨m,hm,rfl⟩))
 params:=(h.funcs f J).params
 funcs:=λg a9=>by
  obtain⟨k,ap,rfl⟩:=LL.1 a9;exact⟨h.names _ (by simp only[bk,Lt,LL];exact .inr ⟨k,ap,rfl⟩),(h.funcs k ap).jF⟩
theorem oR.vars(h:oR p)(J:f∈p.funcs):dM (fu p++cw f.params):=by
 intro s hs;rcases Lt.1 hs with hs|hs
 .exact h.names _ (by simp only[bk,Lt];exact .inl (.inl hs))
 .obtain⟨q,bA,rfl⟩:=LL.1 hs;exact(h.funcs f J).params q (List.mem_filter.1 bA).1
theorem j1{α:Type}(f:α->List Atom):∀(l:List α),(∀x∈l,hR (f x))->hR (l.flatMap f)
 | [],_=>⟨trivial,λa h=>by simp at h⟩
 | x::l,h=>by
  have ao:=j1 f l λy bb=>h y (by simp[bb]);have hx:=h x (by simp);refine⟨hx.app ao.1,λa bz=>?_⟩;rw[LH,List.getLast?_append] at bz
  cases hl:(l.flatMap f).getLast? with
  | none=>rw[hl] at bz;exact hx.2 a (by simpa using bz)
  | some b=>
   rw[hl] at bz;simp at bz;subst bz;exact ao.2 b hl
theorem j2{α:Type}(f:α->List Atom)(g:α->Nat)(c k:Nat):∀(l:List α),(∀x∈l,Atom.count (f x)<=c+53*g x/\fM (f x)<=k+400*g x)->
  Atom.count (l.flatMap f)<=c*l.length+53*(l.map g).sum/\fM (l.flatMap f)<=k*l.length+400*(l.map g).sum
 | [],_=>⟨by simp[count_nil],by simp[cD]⟩
 | x::l,h=>by
  have ao:=j2 f g c k l λy bb=>h y (by simp[bb]);have hx:=h x (by simp);simp only[LH,count_append,bG,Lx,Lq,List.sum_cons,Nat.mul_add,Nat.mul_one];omega
theorem IC{α:Type}(l:List α):(l.map λ_=>0).sum=0:=by induction l<;>simp_all
theorem pT(n:Int)(h:-9223372036854775807<=n/\n<=9223372036854775807):lA (hP n)/\Atom.count (hP n)<=2/\fM (hP n)<=20:=by
 unfold hP;split
 .have a9:=qz (n:=n.natAbs) ad;have hl:=jz 18 n.natAbs ad;refine⟨Fg (.inl rfl) ⟨a9,⟨_,rfl,.inl ⟨rfl,a9⟩⟩,⟨_,rfl,.inl rfl⟩⟩,?_,?_⟩
  .simp only[cu,nC,count_nil];omega
  .simp only[bs,cD,eg,tp,Lx,LG];omega
 .have a9:=qz (n:=n.toNat) ad;have hl:=jz 18 n.toNat ad;refine⟨⟨a9,⟨_,rfl,.inl ⟨rfl,a9⟩⟩,⟨_,rfl,.inl rfl⟩⟩,?_,?_⟩
  .simp only[nC,count_nil];omega
  .simp only[bs,cD,tp];omega
theorem Gp:Atom.chain [.sg [59],.ws 10]:=cb (cm (.inl (by decide))) rfl rfl
theorem rK(g:ByteArray×Int)(hn:bH g.1.data.toList=true)(h:-9223372036854775807<=g.2/\g.2<=9223372036854775807):hR (hL g)/\Atom.count (hL g)<=6/\fM (hL g)<=50:=by
 have hl:=eF hn;obtain⟨bv,hc,O⟩:=pT g.2 h;have ap:(kw [118,97,114]).fZ:=fF (by decide);refine⟨⟨?_,λa bz=>?_⟩,?_⟩
 .unfold hL;refine cb ap rfl (c9 rfl ?_);split
  .exact iA (dJ hn) rfl Gp
  .exact cb (dJ hn) rfl (c9 rfl (cb (cm (.inl (by decide))) rfl (c9 rfl (ff bv (.inr (.inr (.inl rfl))) Gp))))
 .unfold hL at bz;exact z8
 .unfold hL;have aY:([118,97,114]:List UInt8).length=3:=rfl;split
  .simp only[LN,dW,cQ,dc,cu,count_nil,bs,cD,gO,eN,eE,eg,Lx,LG];omega
  .simp only[Lz,dW,cQ,dc,cu,count_append,count_nil,bs,bG,cD,gO,eN,eE,eg,Lx,LG];omega
theorem rL(m:bD)(hn:bH m.name.data.toList=true)(h:0<=m.size/\m.size<=64):hR (hO m)/\Atom.count (hO m)<=7/\fM (hO m)<=50:=by
 have hl:=eF hn;obtain⟨bv,hc,O⟩:=pT m.size ad;have ap:(kw (if m.re then [114,109,117,116,101,120] else fQ)).fZ:=fF (by split<;>decide);have aV:(if m.re then [114,109,117,116,101,120] else fQ:List UInt8).length<=6:=by split<;>decide
 refine⟨⟨?_,λa bz=>?_⟩,?_⟩
 .unfold hO;refine cb ap rfl (c9 rfl ?_);split
  .simp only[Lz,Ly];refine iA (dJ hn) rfl (oY (.inr rfl) bv (ff bv (.inr (.inl rfl)) (cT (cm (.inl (by decide))) Gp λb O=>?_)));simp at O;subst O;exact o2 _ (.inr (.inr rfl)) _ (.inr (.inr (.inl rfl)))
  .exact iA (dJ hn) rfl Gp
 .unfold hO at bz;exact z8
 .unfold hO;generalize (if m.re then [114,109,117,116,101,120] else fQ:List UInt8)=s at *;split
  .simp only[Lz,dW,cQ,dc,cu,count_append,count_nil,bs,bG,cD,gO,eN,eE,eg,Lx,LG];omega
  .simp only[LN,dW,cQ,dc,cu,count_nil,bs,cD,gO,eN,eE,eg,Lx,LG];omega
theorem nz(p:ByteArray×Bool)(hn:bH p.1.data.toList=true):lA (gL p)/\Atom.count (gL p)<=2/\fM (gL p)<=22:=by
 have hl:=eF hn;have hw:=dJ hn;have ap:(kw fQ).fZ:=fF (by decide);have cI:fQ.length=5:=rfl;unfold gL;split
 .refine⟨⟨cb ap rfl (c9 rfl hw),⟨_,rfl,.inl ⟨rfl,ap⟩⟩,⟨_,rfl,.inl rfl⟩⟩,?_⟩;simp only[dW,cQ,dc,count_nil,bs,cD,gO,eN,eE];omega
 .refine⟨⟨hw,⟨_,rfl,.inl ⟨rfl,hw⟩⟩,⟨_,rfl,.inl rfl⟩⟩,?_⟩;exact An
theorem oq:∀(l:List (ByteArray×Bool)),(∀q∈l,bH q.1.data.toList=true)->Atom.count (ef (l.map gL))<=3*l.length/\fM (ef (l.map gL))<=24*l.length
 | [],_=>⟨Lk _,Lk _⟩
 | [p],h=>by
  have:=(nz p (h p (by simp))).2;simp only[Lq,LK,ef,Lx,LG]
  omega
 | p::q::l,h=>by
  have ac:=(nz p (h p (by simp))).2;have ao:=oq (q::l) λx hx=>h x (by simp[hx]);simp only[Lq] at ao;simp only[Lq,ef,count_append,cu,cQ,bG,bs,eg,eN,Lx,LG] at ao ⊢;omega
theorem rJ(hp:oR p)(J:f∈p.funcs):hR (hJ f)/\Atom.count (hJ f)<=13+53*f.body.num/\fM (hJ f)<=80+400*f.body.num:=by
 have hF:=hp.funcs f J;have hn:bH f.name.data.toList=true:=hp.names _ (by simp only[bk,Lt,LL];exact .inr ⟨f,J,rfl⟩);have hl:=eF hn;have hc:=cZ (hp.env J) f.body 4 1 _ _ (hp.vars J) hF.body;have ap:=c4 (hp.env J) f.body 4 1 _ _ (hp.vars J) ad hF.body;have bA:=oq f.params hF.params;have L:=hF.jF;have k:(Atom.sg [123]).fZ:=cm (.inl (by decide));have i:Atom.chain [.sg [125],.ws 10]:=cb (cm (.inl (by decide))) rfl rfl;have e1:hR (aZ 1 f.body):=⟨hc,dQ f.body 1⟩
 have tail:Atom.chain (.sg [41]::.ws 32::.sg [123]::.ws 10::(aZ 1 f.body++[.sg [125],.ws 10])):=
  cb (cm (.inl (by decide))) rfl (c9 rfl (cb k rfl (c9 rfl (e1.app i))))
 refine⟨⟨?_,λa bz=>?_⟩,?_⟩
 .unfold hJ;refine cb (fF (by decide)) rfl (c9 rfl (iA (dJ hn) rfl ?_))
  cases cg:f.params with
  | nil=>
   refine cT (cm (.inl (by decide))) tail λb O=>?_
   exact zH
  | cons q l=>
   have hs:lA (ef ((q::l).map gL)):=nI _ (λa bz=>by
    obtain⟨x,hx,rfl⟩:=LL.1 bz;exact(nz x (hF.params x (by rw[cg];exact hx))).1) (by simp)
   exact oY (.inl rfl) hs (ff hs (.inl rfl) tail)
 .unfold hJ at bz;exact(lB.cons (.cons (.cons (.cons (.app (.cons (.cons (.cons (.cons (.app (.cons (.nl (l:=[]) λa h=>by simp at h)))))))))))).2 a bz
 .have bR:([102,117,110,99]:List UInt8).length=4:=rfl;simp only[hJ,dW,cQ,dc,cu,count_append,count_nil,bs,bG,cD,gO,eN,eE,eg,Lx,LG];omega
theorem uW(hp:oR p):(dw (aY (fH p))).2.2=0:=by
 have a9:∀g∈p.globals,bH g.1.data.toList=true:=λg h=>hp.names _ (by simp only[bk,fu,Lt,LL];exact .inl (.inl ⟨g,h,rfl⟩));have hm:∀m∈p.af,bH m.name.data.toList=true:=λm h=>hp.names _ (by simp only[bk,Lt,LL];exact .inl (.inr ⟨m,h,rfl⟩));have c1:=j1 hL p.globals λg h=>(rK g (a9 g h) (hp.inits g h)).1;have c2:=j1 hO p.af λm h=>(rL m (hm m h) ⟨(hp.fB m h).1,(hp.fB m h).2.1⟩).1;have c3:=j1 hJ p.funcs λf h=>(rJ hp h).1;have cv:=j2 hL (λ_=>0) 6 50 p.globals λg h=>by have:=(rK g (a9 g h) (hp.inits g h)).2;omega
 have bS:=j2 hO (λ_=>0) 7 50 p.af λm h=>by have:=(rL m (hm m h) ⟨(hp.fB m h).1,(hp.fB m h).2.1⟩).2;omega
 have cW:=j2 hJ (λf=>f.body.num) 13 80 p.funcs λf h=>(rJ hp h).2;rw[IC] at cv bS;have n1:=hp.ou;have n2:=hp.wV;have n3:=hp.EG;have n4:=hp.jF;have hlen:(aY (fH p)).length<=262144:=by
  have:fM (fH p)=fM (p.globals.flatMap hL)+(fM (p.af.flatMap hO)+fM (p.funcs.flatMap hJ)):=by unfold fH;rw[bG,bG]
  unfold fM at this cv bS cW;omega
 unfold dw;rw[if_neg ad];refine iG (fH p) _ _ [] ?_ (Nat.lt_succ_self _) ?_
 .exact c1.app (c2.app c3.1)
 .unfold fH;rw[count_append,count_append];simp only[LG];omega
end Go.Proofs.YtkhnkojkplbioaaGreat

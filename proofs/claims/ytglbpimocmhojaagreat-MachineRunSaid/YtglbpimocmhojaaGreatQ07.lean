/- Part 7 of the proof. No condition of its own. -/
import Derived.Test.YtglbpimocmhojaaGreatQ06
namespace Go.Proofs.YtglbpimocmhojaaGreat
open Go.RowKit Go.Proofs.Tryz
set_option maxRecDepth 1000000
set_option maxHeartbeats 25600000
set_option linter.unusedVariables false
variable{f:aJ}{p:bK}
theorem js:∀(k n:Nat),n<10 ^ (k+1)->(jr n).length<=k+1
 | k,n,h=>by
  rw[jr];split
  .simp
  .cases k with
   | zero=>simp at h;omega
   | succ k=>
    have:=js k (n / 10) (by rw[Nat.div_lt_iff_lt_mul ad,<-Nat.pow_succ];exact h);simp;omega
 termination_by k=>k
theorem eB{s:List UInt8}(h:bD s=true):s.length<=16:=by
 simp only[bD,KP,Li] at h;exact h.1.2
def fJ(a1:List Atom):Nat:=(aU a1).length
theorem bC(a1 f:List Atom):fJ (a1++f)=fJ a1+fJ f:=by unfold fJ;rw[bf,KF]
theorem bp(a:Atom)(f:List Atom):fJ (a::f)=a.bytes.length+fJ f:=by unfold fJ;rw[a5,KF]
theorem cC:fJ []=0:=rfl
theorem cL(c:UInt8)(a1:List Atom):Atom.count (.ws c::a1)=Atom.count a1:=rfl
theorem c9(c:List UInt8)(a1:List Atom):Atom.count (.word c::a1)=Atom.count a1+1:=rfl
theorem na(c:List UInt8)(a1:List Atom):Atom.count (.num c::a1)=Atom.count a1+1:=rfl
theorem cq(c:List UInt8)(a1:List Atom):Atom.count (.sg c::a1)=Atom.count a1+1:=rfl
theorem dS(c:List UInt8)(a1:List Atom):Atom.count (kw c::a1)=Atom.count a1+1:=rfl
theorem count_nil:Atom.count []=0:=rfl
theorem eI(c:UInt8):(Atom.ws c).bytes.length=1:=rfl
theorem eA(c:List UInt8):(Atom.word c).bytes.length=c.length:=rfl
theorem gJ(c:List UInt8):(kw c).bytes.length=c.length:=rfl
theorem sK(c:List UInt8):(Atom.num c).bytes.length=c.length:=rfl
theorem dY(c:List UInt8):(Atom.sg c).bytes.length=c.length:=rfl
def cE:Nat->Nat
 | 0=>1
 | d+1=>2*(cE d+2)+1
def bE:Nat->Nat
 | 0=>19
 | d+1=>2*(bE d+2)+4
theorem Dd:∀d,1<=cE d
 | 0=>KD _
 | d+1=>by unfold cE;omega
theorem vz:∀d,19<=bE d
 | 0=>KD _
 | d+1=>by have:=vz d;unfold bE;omega
theorem nu(b:Bool)(a1:List Atom):Atom.count (par b a1)<=Atom.count a1+2/\fJ (par b a1)<=fJ a1+2:=by
 cases b
 .exact⟨by simp[par],by simp[par]⟩
 .simp only[par,if_true,cq,count_append,bp,bC,cC,dY,count_nil,KQ,KW];omega
theorem Ec(op:Int):(gR op).length<=2:=by
 unfold gR
 repeat' split
 all_goals decide
theorem df{N:Lq}(hN:dI N):∀(d:Nat) (x:VE),x.src N d->Atom.count (cn x)<=cE d/\fJ (cn x)<=bE d
 | d,.num n,h=>by
  have F:0<=n/\n<4611686018427387904:=by cases d<;>exact h
  have:=js 18 n.toNat ad;have ac:=Dd d;have au:=vz d;simp only[cn,na,count_nil,bp,cC,sK]
  omega
 | d,.g1 s,h=>by
  have F:s∈N:=by cases d<;>exact h
  have:=eB (hN s F);have ac:=Dd d;have au:=vz d;simp only[cn,c9,count_nil,bp,cC,eA]
  omega
 | d,.loc _,h=>by cases d<;>exact h.elim
 | d,.iB _,h=>by cases d<;>exact h.elim
 | 0,.un _ _,h=>h.elim
 | 0,.bin _ _ _,h=>h.elim
 | d+1,.un op x,h=>by
  have ao:=df hN d x h.2;have hp:=nu (dC op (a9 x) false) (cn x);have hs:(if op=3 then [45] else [33]:List UInt8).length=1:=by split<;>rfl
  simp only[cn,cq,bp,dY,hs,cE,bE]
  omega
 | d+1,.bin op x y,h=>by
  have i:=df hN d x h.2.1;have c:=df hN d y h.2.2;have hp:=nu (dC op (a9 x) false) (cn x);have bv:=nu (dC op (a9 y) true) (cn y);have hs:=Ec op;simp only[cn,count_append,cL,cq,bC,bp,eI,dY,cE,bE];omega
section
variable {G:Env} {V:Lq} (hV:dI V) (hG:nJ G)
include hV hG
theorem mj(r:eO)(h:rT G V r):Atom.count (iu r)<=22/\fJ (iu r)<=118:=by
 have hn:bD r.name.data.toList=true:=by
  rcases h with⟨m,hm,he,_⟩|⟨hp,_⟩
  .rw[<-he];exact hG.af m hm
  .exact hG.params _ hp
 have hl:=eB hn;unfold iu
 cases an:r.idx with
 | none=>
  exact zG
 | some e=>
  have hs:e.src V 2:=by
   exact Gn
  have ao:=df hV 2 e hs;simp only[cE,bE] at ao;simp only[c9,cq,count_append,count_nil,bp,bC,cC,eA,dY,KQ,KW];omega
theorem mh(p:ByteArray×Bool)(a:dn)(h:IT G V p a):Atom.count (fD a)<=23/\fJ (fD a)<=124:=by
 cases a with
 | ex e=>
  have ao:=df hV 2 e h.2;simp only[cE,bE] at ao;show Atom.count (cn e)<=23/\fJ (cn e)<=124
  omega
 | mx r=>
  have ao:=mj hV hG r h.2;simp only[fD,dS,cL,bp,gJ,eI];have:fN.length=5:=rfl;omega
theorem nV:∀(ps:List (ByteArray×Bool)) (a1:List dn),iM G V ps a1->Atom.count (dX (a1.map fD))<=24*ps.length/\fJ (dX (a1.map fD))<=126*ps.length
 | [],[],_=>⟨KD _,KD _⟩
 | [p],[a],h=>by
  have:=mh hV hG p a h.1;simp only[KJ,Lb,dX,KQ,KW]
  omega
 | p::q::ps,a::b::a1,h=>by
  have ac:=mh hV hG p a h.1;have ao:=nV (q::ps) (b::a1) h.2;simp only[KJ] at ao;simp only[KJ,dX,count_append,cq,cL,bC,bp,dY,eI,KQ,KW] at ao ⊢
  omega
 | [],_::_,h=>h.elim
 | _::_,[],h=>h.elim
 | [_],_::_::_,h=>h.2.elim
 | _::_::_,[_],h=>h.2.elim
theorem qP(ps:List (ByteArray×Bool))(a1:List dn)(h:iM G V ps a1)(hp:ps.length<=2):Atom.count (iT a1)<=50/\fJ (iT a1)<=254:=by
 have:=nV hV hG ps a1 h;simp only[iT,cq,count_append,count_nil,bp,bC,cC,dY,KQ,KW];omega
end
theorem gU(t:Nat):Atom.count (fy t)=0/\fJ (fy t)=t:=by
 induction t with
 | zero=>exact⟨rfl,rfl⟩
 | succ t ao=>
  have e:fy (t+1)=.ws 9::fy t:=rfl;rw[e,cL,bp,eI];omega
theorem cY{G:Env}(hG:nJ G):∀(b:an) (d t:Nat) (V T:Lq),dI V->t+d<=8->e4 G d V T b->Atom.count (aW t b)<=53*b.num/\fJ (aW t b)<=400*b.num
 | .nil,d,t,V,T,_,_,_=>⟨KD _,KD _⟩
 | .set v n e rest,d,t,V,T,hV,ht,h=>by
  have ct:=gU t
  cases v with
  | true=>
   have F:bD n.data.toList=true/\n∉T/\e.src V 2/\e4 G d (V++[n]) (T++[n]) rest:=by cases d<;>exact h
   have ao:=cY hG rest d t _ _ (jZ hV F.1) ht F.2.2.2;have aw:=df hV 2 e F.2.2.1;have hn:=eB F.1;simp only[cE,bE] at aw;simp only[aW,if_true,count_append,dS,cL,c9,cq,count_nil,bC,bp,cC,gJ,eI,eA,dY,an.num,KQ,KW]
   omega
  | false=>
   have F:n∈V/\e.src V 2/\e4 G d V T rest:=by cases d<;>exact h
   have ao:=cY hG rest d t _ _ hV ht F.2.2;have aw:=df hV 2 e F.2.1;have hn:=eB (hV n F.1);simp only[cE,bE] at aw;simp only[aW,Lj,if_false,count_append,cL,c9,cq,count_nil,bC,bp,cC,eI,eA,dY,an.num,KQ,KW]
   omega
 | .call g n a1 rest,d,t,V,T,hV,ht,h=>by
  have ct:=gU t;have F:(∃ps,(n,ps)∈G.funcs/\iM G V ps a1)/\e4 G d V T rest:=by cases d<;>exact h
  obtain⟨⟨ps,J,has⟩,a5⟩:=F;have ao:=cY hG rest d t _ _ hV ht a5;have bw:=qP hV hG ps a1 has (hG.funcs _ J).2;have hn:=eB (hG.funcs _ J).1;cases g<;>
  .simp only[aW,Lj,if_false,if_true,count_append,dS,cL,c9,cq,count_nil,bC,bp,cC,gJ,eI,eA,dY,an.num,KQ,KW];simp only[] at hn
   omega
 | .lock u r rest,d,t,V,T,hV,ht,h=>by
  have ct:=gU t;have F:rT G V r/\e4 G d V T rest:=by cases d<;>exact h
  have ao:=cY hG rest d t _ _ hV ht F.2;have cA:=mj hV hG r F.1;cases u<;>
  .simp only[aW,Lj,if_false,if_true,count_append,dS,cL,cq,bC,bp,gJ,eI,dY,an.num,KQ,KW]
   omega
 | .ite e th el rest,0,t,V,T,hV,ht,h=>h.elim
 | .gv e th rest,0,t,V,T,hV,ht,h=>h.elim
 | .ite e th el rest,d+1,t,V,T,hV,ht,h=>by
  have ct:=gU t;have j:=cY hG th d (t+1) _ _ hV ad h.2.1;have o:=cY hG el d (t+1) _ _ hV ad h.2.2.1;have ao:=cY hG rest (d+1) t _ _ hV ht h.2.2.2;have aw:=df hV 2 e h.1;simp only[cE,bE] at aw;cases hn:el.isNil<;>
  .simp only[aW,hn,Lj,if_false,if_true,KS,Le,count_append,dS,cL,cq,count_nil,bC,bp,cC,gJ,eI,dY,an.num,KQ,KW]
   omega
 | .gv e th rest,d+1,t,V,T,hV,ht,h=>by
  have ct:=gU t;have j:=cY hG th d (t+1) _ _ hV ad h.2.1;have ao:=cY hG rest (d+1) t _ _ hV ht h.2.2;have aw:=df hV 2 e h.1;simp only[cE,bE] at aw;simp only[aW,count_append,dS,cL,cq,bC,bp,gJ,eI,dY,an.num,KQ,KW]
  omega
 | .ret rest,d,t,V,T,hV,ht,h=>by
  have ct:=gU t;have F:e4 G d V T rest:=by cases d<;>exact h
  have ao:=cY hG rest d t _ _ hV ht F;simp only[aW,count_append,dS,cL,cq,bC,bp,gJ,eI,dY,an.num,KQ,KW];omega
def hB(n:Int):List Atom:=if n<0 then [.sg [45],.num (jr n.natAbs)] else [.num (jr n.toNat)]
def hz(g:ByteArray×Int):List Atom:=kw [118,97,114]::.ws 32::.word g.1.data.toList::((if g.2=0 then [] else .ws 32::.sg [61]::.ws 32::hB g.2)++[.sg [59],.ws 10])
def hA(m:bG):List Atom:=kw (if m.re then [114,109,117,116,101,120] else fN)::.ws 32::.word m.name.data.toList::((if 0<m.size then .sg [91]::(hB m.size++[.sg [93]]) else [])++[.sg [59],.ws 10])
def gH(p:ByteArray×Bool):List Atom:=if p.2 then [kw fN,.ws 32,.word p.1.data.toList] else [.word p.1.data.toList]
def hy(f:aJ):List Atom:=kw [102,117,110,99]::.ws 32::.word f.name.data.toList::.sg [40]::(dX (f.params.map gH)++(.sg [41]::.ws 32::.sg [123]::.ws 10::(aW 1 f.body++[.sg [125],.ws 10])))
def fE(p:bK):List Atom:=p.globals.flatMap hz++(p.af.flatMap hA++p.funcs.flatMap hy)
def fo(p:bK):List ByteArray:=p.globals.map (·.1)
def bh(p:bK):List ByteArray:=fo p++p.af.map (·.name)++p.funcs.map (·.name)
def sigs(p:bK):List (ByteArray×List (ByteArray×Bool)):=p.funcs.map λf=>(f.name,f.params)
def hR(p:bK)(f:aJ):Env:=⟨p.af,f.params,sigs p⟩
def cr(ps:List (ByteArray×Bool)):List ByteArray:=(ps.filter λq=>!q.2).map (·.1)
structure Kl(p:bK)(f:aJ):Prop where
 params:∀q∈f.params,bD q.1.data.toList=true
 jy:f.params.length<=2
 fresh:(bh p++f.params.map (·.1)).Nodup
 body:e4 (hR p f) 4 (fo p++cr f.params) (bh p++f.params.map (·.1)) f.body
structure ot(p:bK):Prop where
 names:∀s∈bh p,bD s.data.toList=true
 nodup:(bh p).Nodup
 nY:p.globals.length<=16
 v8:p.af.length<=12
 DS:p.funcs.length<=16
 inits:∀g∈p.globals,-9223372036854775807<=g.2/\g.2<=9223372036854775807
 fx:∀m∈p.af,0<=m.size/\m.size<=64/\(m.re=true->m.size=0)
 funcs:∀f∈p.funcs,Kl p f
 main:∃(i:Nat) (f:aJ),p.funcs[i]?=some f/\f.name=⟨#[109,97,105,110]⟩/\f.params=[]
 jy:(p.funcs.map λf=>f.body.num).sum<=64
theorem ot.env(h:ot p)(J:f∈p.funcs):nJ (hR p f) where
 af:=λm hm=>h.names _ (by simp only[bh,KM,Lc];exact .inl (.inr ⟨m,hm,rfl⟩))
 params:=(h.funcs f J).params
 funcs:=λg a2=>by
  obtain⟨k,ap,rfl⟩:=Lc.1 a2;exact⟨h.names _ (by simp only[bh,KM,Lc];exact .inr ⟨k,ap,rfl⟩),(h.funcs k ap).jy⟩
theorem ot.vars(h:ot p)(J:f∈p.funcs):dI (fo p++cr f.params):=by
 intro s hs;rcases KM.1 hs with hs|hs
 .exact h.names _ (by simp only[bh,KM];exact .inl (.inl hs))
 .obtain⟨q,bv,rfl⟩:=Lc.1 hs;exact(h.funcs f J).params q (List.mem_filter.1 bv).1
theorem jU{α:Type}(f:α->List Atom):∀(l:List α),(∀x∈l,hE (f x))->hE (l.flatMap f)
 | [],_=>⟨trivial,λa h=>by simp at h⟩
 | x::l,h=>by
  have ao:=jU f l λy bb=>h y (by simp[bb]);have hx:=h x (by simp);refine⟨hx.app ao.1,λa bx=>?_⟩;rw[KX,List.getLast?_append] at bx
  cases hl:(l.flatMap f).getLast? with
  | none=>rw[hl] at bx;exact hx.2 a (by simpa using bx)
  | some b=>
   rw[hl] at bx;simp at bx;subst bx;exact ao.2 b hl
theorem jV{α:Type}(f:α->List Atom)(g:α->Nat)(c k:Nat):∀(l:List α),(∀x∈l,Atom.count (f x)<=c+53*g x/\fJ (f x)<=k+400*g x)->
  Atom.count (l.flatMap f)<=c*l.length+53*(l.map g).sum/\fJ (l.flatMap f)<=k*l.length+400*(l.map g).sum
 | [],_=>⟨by simp[count_nil],by simp[cC]⟩
 | x::l,h=>by
  have ao:=jV f g c k l λy bb=>h y (by simp[bb]);have hx:=h x (by simp);simp only[KX,count_append,bC,KQ,KJ,List.sum_cons,Nat.mul_add,Nat.mul_one];omega
theorem HM{α:Type}(l:List α):(l.map λ_=>0).sum=0:=by induction l<;>simp_all
theorem pv(n:Int)(h:-9223372036854775807<=n/\n<=9223372036854775807):ld (hB n)/\Atom.count (hB n)<=2/\fJ (hB n)<=20:=by
 unfold hB;split
 .have a2:=p2 (n:=n.natAbs) ad;have hl:=js 18 n.natAbs ad;refine⟨Er (.inl rfl) ⟨a2,⟨_,rfl,.inl ⟨rfl,a2⟩⟩,⟨_,rfl,.inl rfl⟩⟩,?_,?_⟩
  .simp only[cq,na,count_nil];omega
  .simp only[bp,cC,dY,sK,KQ,KW];omega
 .have a2:=p2 (n:=n.toNat) ad;have hl:=js 18 n.toNat ad;refine⟨⟨a2,⟨_,rfl,.inl ⟨rfl,a2⟩⟩,⟨_,rfl,.inl rfl⟩⟩,?_,?_⟩
  .simp only[na,count_nil];omega
  .simp only[bp,cC,sK];omega
theorem FB:Atom.chain [.sg [59],.ws 10]:=cb (ck (.inl (by decide))) rfl rfl
theorem q8(g:ByteArray×Int)(hn:bD g.1.data.toList=true)(h:-9223372036854775807<=g.2/\g.2<=9223372036854775807):hE (hz g)/\Atom.count (hz g)<=6/\fJ (hz g)<=50:=by
 have hl:=eB hn;obtain⟨bt,hc,O⟩:=pv g.2 h;have ap:(kw [118,97,114]).fW:=fC (by decide);refine⟨⟨?_,λa bx=>?_⟩,?_⟩
 .unfold hz;refine cb ap rfl (c5 rfl ?_);split
  .exact iv (dF hn) rfl FB
  .exact cb (dF hn) rfl (c5 rfl (cb (ck (.inl (by decide))) rfl (c5 rfl (e6 bt (.inr (.inr (.inl rfl))) FB))))
 .unfold hz at bx;exact zr
 .unfold hz;have aU:([118,97,114]:List UInt8).length=3:=rfl;split
  .simp only[Le,dS,cL,c9,cq,count_nil,bp,cC,gJ,eI,eA,dY,KQ,KW];omega
  .simp only[KS,dS,cL,c9,cq,count_append,count_nil,bp,bC,cC,gJ,eI,eA,dY,KQ,KW];omega
theorem q9(m:bG)(hn:bD m.name.data.toList=true)(h:0<=m.size/\m.size<=64):hE (hA m)/\Atom.count (hA m)<=7/\fJ (hA m)<=50:=by
 have hl:=eB hn;obtain⟨bt,hc,O⟩:=pv m.size ad;have ap:(kw (if m.re then [114,109,117,116,101,120] else fN)).fW:=fC (by split<;>decide);have bc:(if m.re then [114,109,117,116,101,120] else fN:List UInt8).length<=6:=by split<;>decide
 refine⟨⟨?_,λa bx=>?_⟩,?_⟩
 .unfold hA;refine cb ap rfl (c5 rfl ?_);split
  .simp only[KS,KR];refine iv (dF hn) rfl (oB (.inr rfl) bt (e6 bt (.inr (.inl rfl)) (cP (ck (.inl (by decide))) FB λb O=>?_)));simp at O;subst O;exact oD _ (.inr (.inr rfl)) _ (.inr (.inr (.inl rfl)))
  .exact iv (dF hn) rfl FB
 .unfold hA at bx;exact zr
 .unfold hA;generalize (if m.re then [114,109,117,116,101,120] else fN:List UInt8)=s at *;split
  .simp only[KS,dS,cL,c9,cq,count_append,count_nil,bp,bC,cC,gJ,eI,eA,dY,KQ,KW];omega
  .simp only[Le,dS,cL,c9,cq,count_nil,bp,cC,gJ,eI,eA,dY,KQ,KW];omega
theorem m6(p:ByteArray×Bool)(hn:bD p.1.data.toList=true):ld (gH p)/\Atom.count (gH p)<=2/\fJ (gH p)<=22:=by
 have hl:=eB hn;have hw:=dF hn;have ap:(kw fN).fW:=fC (by decide);have cF:fN.length=5:=rfl;unfold gH;split
 .refine⟨⟨cb ap rfl (c5 rfl hw),⟨_,rfl,.inl ⟨rfl,ap⟩⟩,⟨_,rfl,.inl rfl⟩⟩,?_⟩;simp only[dS,cL,c9,count_nil,bp,cC,gJ,eI,eA];omega
 .refine⟨⟨hw,⟨_,rfl,.inl ⟨rfl,hw⟩⟩,⟨_,rfl,.inl rfl⟩⟩,?_⟩;exact zG
theorem nW:∀(l:List (ByteArray×Bool)),(∀q∈l,bD q.1.data.toList=true)->Atom.count (dX (l.map gH))<=3*l.length/\fJ (dX (l.map gH))<=24*l.length
 | [],_=>⟨KD _,KD _⟩
 | [p],h=>by
  have:=(m6 p (h p (by simp))).2;simp only[KJ,Lb,dX,KQ,KW]
  omega
 | p::q::l,h=>by
  have ac:=(m6 p (h p (by simp))).2;have ao:=nW (q::l) λx hx=>h x (by simp[hx]);simp only[KJ] at ao;simp only[KJ,dX,count_append,cq,cL,bC,bp,dY,eI,KQ,KW] at ao ⊢;omega
theorem q6(hp:ot p)(J:f∈p.funcs):hE (hy f)/\Atom.count (hy f)<=13+53*f.body.num/\fJ (hy f)<=80+400*f.body.num:=by
 have hF:=hp.funcs f J;have hn:bD f.name.data.toList=true:=hp.names _ (by simp only[bh,KM,Lc];exact .inr ⟨f,J,rfl⟩);have hl:=eB hn;have hc:=cX (hp.env J) f.body 4 1 _ _ (hp.vars J) hF.body;have ap:=cY (hp.env J) f.body 4 1 _ _ (hp.vars J) ad hF.body;have bv:=nW f.params hF.params;have L:=hF.jy;have k:(Atom.sg [123]).fW:=ck (.inl (by decide));have i:Atom.chain [.sg [125],.ws 10]:=cb (ck (.inl (by decide))) rfl rfl;have e1:hE (aW 1 f.body):=⟨hc,dM f.body 1⟩
 have tail:Atom.chain (.sg [41]::.ws 32::.sg [123]::.ws 10::(aW 1 f.body++[.sg [125],.ws 10])):=
  cb (ck (.inl (by decide))) rfl (c5 rfl (cb k rfl (c5 rfl (e1.app i))))
 refine⟨⟨?_,λa bx=>?_⟩,?_⟩
 .unfold hy;refine cb (fC (by decide)) rfl (c5 rfl (iv (dF hn) rfl ?_))
  cases cl:f.params with
  | nil=>
   refine cP (ck (.inl (by decide))) tail λb O=>?_
   exact Gv
  | cons q l=>
   have hs:ld (dX ((q::l).map gH)):=np _ (λa bx=>by
    obtain⟨x,hx,rfl⟩:=Lc.1 bx;exact(m6 x (hF.params x (by rw[cl];exact hx))).1) (by simp)
   exact oB (.inl rfl) hs (e6 hs (.inl rfl) tail)
 .unfold hy at bx;exact(lg.cons (.cons (.cons (.cons (.app (.cons (.cons (.cons (.cons (.app (.cons (.nl (l:=[]) λa h=>by simp at h)))))))))))).2 a bx
 .have bE:([102,117,110,99]:List UInt8).length=4:=rfl;simp only[hy,dS,cL,c9,cq,count_append,count_nil,bp,bC,cC,gJ,eI,eA,dY,KQ,KW];omega
theorem ub(hp:ot p):(dt (aU (fE p))).2.2=0:=by
 have a2:∀g∈p.globals,bD g.1.data.toList=true:=λg h=>hp.names _ (by simp only[bh,fo,KM,Lc];exact .inl (.inl ⟨g,h,rfl⟩));have hm:∀m∈p.af,bD m.name.data.toList=true:=λm h=>hp.names _ (by simp only[bh,KM,Lc];exact .inl (.inr ⟨m,h,rfl⟩));have c1:=jU hz p.globals λg h=>(q8 g (a2 g h) (hp.inits g h)).1;have c2:=jU hA p.af λm h=>(q9 m (hm m h) ⟨(hp.fx m h).1,(hp.fx m h).2.1⟩).1;have c3:=jU hy p.funcs λf h=>(q6 hp h).1;have cv:=jV hz (λ_=>0) 6 50 p.globals λg h=>by have:=(q8 g (a2 g h) (hp.inits g h)).2;omega
 have bO:=jV hA (λ_=>0) 7 50 p.af λm h=>by have:=(q9 m (hm m h) ⟨(hp.fx m h).1,(hp.fx m h).2.1⟩).2;omega
 have cV:=jV hy (λf=>f.body.num) 13 80 p.funcs λf h=>(q6 hp h).2;rw[HM] at cv bO;have n1:=hp.nY;have n2:=hp.v8;have n3:=hp.DS;have n4:=hp.jy;have hlen:(aU (fE p)).length<=262144:=by
  have:fJ (fE p)=fJ (p.globals.flatMap hz)+(fJ (p.af.flatMap hA)+fJ (p.funcs.flatMap hy)):=by unfold fE;rw[bC,bC]
  unfold fJ at this cv bO cV;omega
 unfold dt;rw[if_neg ad];refine iC (fE p) _ _ [] ?_ (Nat.lt_succ_self _) ?_
 .exact c1.app (c2.app c3.1)
 .unfold fE;rw[count_append,count_append];simp only[KW];omega
end Go.Proofs.YtglbpimocmhojaaGreat

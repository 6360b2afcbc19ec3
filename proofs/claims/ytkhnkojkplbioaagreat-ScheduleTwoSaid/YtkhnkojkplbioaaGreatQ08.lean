/- Part 8 of the proof. No condition of its own. -/
import Derived.Test.YtkhnkojkplbioaaGreatQ07
namespace Go.Proofs.YtkhnkojkplbioaaGreat
open Go.RowKit Go.Proofs.Tryz
set_option maxRecDepth 1000000
set_option maxHeartbeats 25600000
set_option linter.unusedVariables false
variable{s:ByteArray}{f:aK}{p:bP}
structure dO where
 name:ByteArray
 kind:Int
 n:Int
def dD(l:List dO)(s:ByteArray):Option dO:=l.find? λe=>decide (e.name=s)
def bO(l:List dO):VE->VE
 | .num n=>.num n
 | .g7 s=>match dD l s with
  | some e=>if e.kind=1 then .iF e.n else .loc e.n
  | none=>.loc 0
 | .loc k=>.loc k
 | .iF k=>.iF k
 | .un op x=>.un op (bO l x)
 | .bin op x y=>.bin op (bO l x) (bO l y)
def mo(l:List dO)(r:eS):bN:=
 match dD l r.name with
 | some v=>⟨v.kind == 5,v.n,r.idx.map (bO l)⟩
 | none=>⟨false,0,r.idx.map (bO l)⟩
def jn(l:List dO)(s:ByteArray):Int:=match dD l s with
 | some v=>v.n
 | none=>0
def ux(l:List dO)(s:ByteArray):Int:=match dD l s with
 | some v=>v.kind
 | none=>0
def bW(l:List dO):List ds->List VE
 | []=>[]
 | .ex e::aV=>bO l e::bW l aV
 | .mx _::aV=>bW l aV
def cB(l:List dO):List ds->List bN
 | []=>[]
 | .ex _::aV=>cB l aV
 | .mx r::aV=>mo l r::cB l aV
def kh:bN:=⟨false,0,none⟩
def lE(t:Int)(g:Bool)(e:VE):az:=⟨1,t,g,some e,kh,[],[]⟩
def lK(g:Bool)(t:Int)(is:List VE)(ps:List bN):az:=⟨if g then 3 else 2,t,false,none,kh,is,ps⟩
def qk(u:Bool)(p:bN):az:=⟨if u then 5 else 4,0,false,none,p,[],[]⟩
def ks(e:VE)(t:Int):az:=⟨6,t,false,some e,kh,[],[]⟩
def er(t:Int):az:=⟨7,t,false,none,kh,[],[]⟩
def nF:az:=⟨8,0,false,none,kh,[],[]⟩
def ga(c:List az)(b:Nat)(t:Int):List az:=c.modify b λx=>{x with target:=t}
def dL:an->List dO->Int->List az->List az×Int
 | .nil,_,n,c=>(c,n)
 | .set true s e rest,l,n,c=>dL rest (l++[⟨s,4,n⟩]) (n+1) (c++[lE n false (bO l e)])
 | .set false s e rest,l,n,c=>dL rest l n (c++[lE (jn l s) (ux l s == 1) (bO l e)])
 | .call g s aV rest,l,n,c=>dL rest l n (c++[lK g (jn l s) (bW l aV) (cB l aV)])
 | .lock u r rest,l,n,c=>dL rest l n (c++[qk u (mo l r)])
 | .ite e th el rest,l,n,c=>
  let p:=dL th l n (c++[ks (bO l e) 0])
  let q:=if el.isNil then (ga p.1 c.length p.1.length,p.2) else
   let k:=dL el l p.2 (ga (p.1++[er 0]) c.length (p.1.length+1:Nat))
   (ga k.1 p.1.length k.1.length,k.2)
  dL rest l q.2 q.1
 | .gz e th rest,l,n,c=>
  let p:=dL th l n (c++[ks (bO l e) 0])
  dL rest l p.2 (ga (p.1++[er c.length]) c.length (p.1.length+1:Nat))
 | .ret rest,l,n,c=>dL rest l n (c++[nF])
def iE{α:Type}(f:α->ByteArray)(k:Int):List α->Nat->List dO
 | [],_=>[]
 | x::l,i=>⟨f x,k,i⟩::iE f k l (i+1)
def br(p:bP):List dO:=iE (·.1) 1 p.globals 0++iE (·.name) 2 p.af 0++iE (·.name) 3 p.funcs 0
def dU:List (ByteArray×Bool)->Int->Int->List dO
 | [],_,_=>[]
 | (s,true)::l,i,k=>⟨s,5,k⟩::dU l i (k+1)
 | (s,false)::l,i,k=>⟨s,4,i⟩::dU l (i+1) k
def cd(ps:List (ByteArray×Bool)):Int:=((ps.filter λq=>!q.2).length:Nat)
def bU(ps:List (ByteArray×Bool)):Int:=((ps.filter λq=>q.2).length:Nat)
def ez(p:bP)(f:aK):cM:=
 let q:=dL f.body (br p++dU f.params 0 0) (cd f.params) []
 ⟨f.name,cd f.params,bU f.params,q.2,q.1++[nF]⟩
def iJ:ByteArray:=⟨#[109,97,105,110]⟩
def gq(p:bP):ay:=⟨p.globals.map (·.2),p.af,p.funcs.map (ez p),jn (br p) iJ⟩
def VE.lit:VE->Prop
 | .num n=>0<=n/\n<=9223372036854775807
 | .un _ x=>x.lit
 | .bin _ x y=>x.lit/\y.lit
 | _=>True
structure hz where
 ng:Nat
 af:List bD
 sig:List (Int×Int)
def gj(U:hz)(nl:Int)(e:VE):Prop:=e.ok U.ng nl.toNat/\e.lit
def cW(U:hz)(nl nk:Int)(p:bN):Prop:=
 (p.param=true/\0<=p.index/\p.index<nk/\p.at_=none)\/
 (p.param=false/\∃m,0<=p.index/\U.af[p.index.toNat]?=some m/\(0<m.size->∃e,p.at_=some e/\gj U nl e)/\(¬0<m.size->p.at_=none))
def h7(U:hz)(nl nk:Int)(len:Nat)(x:az):Prop:=
 (x.op=1/\(∃e,x.expr=some e/\gj U nl e)/\0<=x.target/\(x.c7=true->x.target<U.ng)/\(x.c7=false->x.target<nl))\/
 ((x.op=2\/x.op=3)/\x.c7=false/\∃s,0<=x.target/\U.sig[x.target.toNat]?=some s/\(x.ints.length:Int)=s.1/\(x.places.length:Int)=s.2/\(∀e∈x.ints,gj U nl e)/\∀p∈x.places,cW U nl nk p)\/
 ((x.op=4\/x.op=5)/\x.c7=false/\cW U nl nk x.place)\/
 (x.op=6/\x.c7=false/\(∃e,x.expr=some e/\gj U nl e)/\0<=x.target/\x.target<=len)\/
 (x.op=7/\x.c7=false/\0<=x.target/\x.target<=len)\/
 (x.op=8/\x.c7=false)
structure Sc(U:hz)(G:Env)(l:List dO)(V T:L4)(n nk:Int):Prop where
 vars:∀s∈V,∃e,dD l s=some e/\((e.kind=1/\0<=e.n/\e.n<U.ng)\/(e.kind=4/\0<=e.n/\e.n<n))
 Jl:∀m∈G.af,∃e,dD l m.name=some e/\e.kind=2/\0<=e.n/\U.af[e.n.toNat]?=some m
 EN:∀s,(s,true)∈G.params->∃e,dD l s=some e/\e.kind=5/\0<=e.n/\e.n<nk
 fns:∀s ps,(s,ps)∈G.funcs->∃e,dD l s=some e/\e.kind=3/\0<=e.n/\U.sig[e.n.toNat]?=some (cd ps,bU ps)
 taken:∀e∈l,e.name∈T
 n0:0<=n
variable{e:dO}
theorem jG{l:List dO}{x:dO}(h:dD l s=some e):dD (l++[x]) s=some e:=by
 unfold dD at *;rw[List.find?_append,h];rfl
theorem yT{l:List dO}{T:L4}(ht:∀e∈l,e.name∈T)(hs:s∉T)(k n:Int):dD (l++[⟨s,k,n⟩]) s=some ⟨s,k,n⟩:=by
 unfold dD;rw[List.find?_append,List.find?_eq_none.2 (λe he=>by
  simp only[LR];rintro rfl;exact hs (ht e he))]
 simp
section
variable {U:hz} {G:Env} {l:List dO} {V T:L4} {n aP nk:Int}
theorem Sc.mono(h:Sc U G l V T n nk)(hn:n<=aP):Sc U G l V T aP nk:=
 ⟨λs hs=>by obtain⟨e,he,ap⟩:=h.vars s hs;exact⟨e,he,ap.imp id λ⟨a,b,c⟩=>⟨a,b,ad⟩⟩,h.Jl,h.EN,h.fns,h.taken,by have:=h.n0;omega⟩
theorem Sc.add(h:Sc U G l V T n nk)(hs:s∉T):Sc U G (l++[⟨s,4,n⟩]) (V++[s]) (T++[s]) (n+1) nk where
 vars:=λx hx=>by
  rcases Lt.1 hx with hx|hx
  .obtain⟨e,he,ap⟩:=h.vars x hx;exact⟨e,jG he,ap.imp id λ⟨a,b,c⟩=>⟨a,b,ad⟩⟩
  .have:x=s:=by simpa using hx
   subst this;exact⟨_,yT h.taken hs 4 n,.inr ⟨rfl,h.n0,by show n<n+1;omega⟩⟩
 Jl:=λm hm=>by obtain⟨e,he,r⟩:=h.Jl m hm;exact⟨e,jG he,r⟩
 EN:=λx hx=>by obtain⟨e,he,r⟩:=h.EN x hx;exact⟨e,jG he,r⟩
 fns:=λx ps hx=>by obtain⟨e,he,r⟩:=h.fns x ps hx;exact⟨e,jG he,r⟩
 taken:=λe he=>by
  rcases Lt.1 he with he|he
  .exact Lt.2 (.inl (h.taken e he))
  .have:e=⟨s,4,n⟩:=by simpa using he
   subst this;simp
 n0:=by have:=h.n0;omega
end
theorem pk{ng nl a:Nat}(h:nl<=a):∀x:VE,x.ok ng nl->x.ok ng a
 | .num _,_=>trivial
 | .g7 _,F=>F.elim
 | .loc k,F=>⟨F.1,by have:=F.2;omega⟩
 | .iF k,F=>F
 | .un _ x,F=>⟨F.1,pk h x F.2⟩
 | .bin _ x y,F=>⟨F.1,pk h x F.2.1,pk h y F.2.2⟩
theorem gj.mono{U:hz}{n aP:Int}{e:VE}(h:gj U n e)(hn:n<=aP):gj U aP e:=⟨pk (nl:=n.toNat) (a:=aP.toNat) ad e h.1,h.2⟩
theorem cW.mono{U:hz}{n aP nk:Int}{p:bN}(h:cW U n nk p)(hn:n<=aP):cW U aP nk p:=
 h.imp id λ⟨a,m,b,c,d,e⟩=>⟨a,m,b,c,λhs=>by obtain⟨x,hx,ap⟩:=d hs;exact⟨x,hx,ap.mono hn⟩,e⟩
theorem h7.mono{U:hz}{n aP nk:Int}{k F:Nat}{x:az}(h:h7 U n nk k x)(hn:n<=aP)(ap:k<=F):h7 U aP nk F x:=by
 rcases h with⟨ac,⟨e,he,bn⟩,au,aY,bR⟩|⟨ac,a9,s,au,aY,bR,cI,a2,g⟩|⟨ac,a9,au⟩|⟨ac,a9,⟨e,he,bn⟩,au,aY⟩|⟨ac,a9,au,aY⟩|h
 .exact .inl ⟨ac,⟨e,he,bn.mono hn⟩,au,aY,λh=>by have:=bR h;omega⟩
 .exact .inr (.inl ⟨ac,a9,s,au,aY,bR,cI,λe he=>(a2 e he).mono hn,λp hp=>(g p hp).mono hn⟩)
 .exact .inr (.inr (.inl ⟨ac,a9,au.mono hn⟩))
 .exact .inr (.inr (.inr (.inl ⟨ac,a9,⟨e,he,bn.mono hn⟩,au,ad⟩)))
 .exact .inr (.inr (.inr (.inr (.inl ⟨ac,a9,au,ad⟩))))
 .exact .inr (.inr (.inr (.inr (.inr h))))
section
variable {U:hz} {G:Env} {l:List dO} {V T:L4} {n nk:Int} (hS:Sc U G l V T n nk)
include hS
theorem ia:∀(d:Nat) (x:VE),x.src V d->gj U n (bO l x)
 | d,.num k,h=>by
  have F:0<=k/\k<4611686018427387904:=by cases d<;>exact h
  exact⟨trivial,by show 0<=k/\k<=9223372036854775807;omega⟩
 | d,.g7 s,h=>by
  have F:s∈V:=by cases d<;>exact h
  obtain⟨e,he,ap⟩:=hS.vars s F;have hn:=hS.n0;unfold bO;simp only[he];rcases ap with⟨ac,au,aY⟩|⟨ac,au,aY⟩
  .rw[if_pos ac];exact⟨⟨au,aY⟩,trivial⟩
  .rw[if_neg ad]
   exact⟨⟨au,ad⟩,trivial⟩
 | d,.loc _,h=>by cases d<;>exact h.elim
 | d,.iF _,h=>by cases d<;>exact h.elim
 | 0,.un _ _,h=>h.elim
 | 0,.bin _ _ _,h=>h.elim
 | d+1,.un op x,h=>by
  have ao:=ia d x h.2
  exact⟨⟨h.1,ao.1⟩,ao.2⟩
 | d+1,.bin op x y,h=>by
  have i:=ia d x h.2.1;have c:=ia d y h.2.2;exact⟨⟨h.1,i.1,c.1⟩,i.2,c.2⟩
theorem yo(r:eS)(h:su G V r):cW U n nk (mo l r):=by
 unfold mo;rcases h with⟨m,hm,hn,ac,au⟩|⟨hp,an⟩
 .obtain⟨e,he,ap,h0,hu⟩:=hS.Jl m hm;rw[<-hn];simp only[he];refine .inr ⟨by simp[ap],m,h0,hu,λhs=>?_,λhs=>by simp[au hs]⟩;obtain⟨x,hx,ay⟩:=ac hs;exact⟨bO l x,by simp[hx],ia hS 2 x ay⟩
 .obtain⟨e,he,ap,h0,al⟩:=hS.EN _ hp;simp only[he];exact .inl ⟨by simp[ap],h0,al,by simp[an]⟩
theorem s5:∀(ps:List (ByteArray×Bool)) (aV:List ds),iR G V ps aV->
  ((bW l aV).length:Int)=cd ps/\((cB l aV).length:Int)=bU ps/\(∀e∈bW l aV,gj U n e)/\∀p∈cB l aV,cW U n nk p
 | [],[],_=>⟨rfl,rfl,λe h=>by simp[bW] at h,λe h=>by simp[cB] at h⟩
 | (s,b)::ps,.mx r::aV,h=>by
  obtain⟨ac,au,aY,bR⟩:=s5 ps aV h.2;have O:b=true:=h.1.1;subst O;refine⟨?_,?_,aY,?_⟩
  .simpa[bW,cd] using ac
  .simp only[cB,Lx,bU] at au ⊢;simp;omega
  .intro p hp;simp only[cB,LC] at hp;rcases hp with rfl|hp
   .exact yo hS r h.1.2
   .exact bR p hp
 | (s,b)::ps,.ex e::aV,h=>by
  obtain⟨ac,au,aY,bR⟩:=s5 ps aV h.2;have O:b=false:=h.1.1;subst O;refine⟨?_,?_,?_,bR⟩
  .simp only[bW,Lx,cd] at ac ⊢;simp;omega
  .simpa[cB,bU] using au
  .intro p hp;simp only[bW,LC] at hp;rcases hp with rfl|hp
   .exact ia hS 2 e h.1.2
   .exact aY p hp
 | [],_::_,h=>h.elim
 | _::_,[],h=>h.elim
end
theorem px(a:List az)(x:az)(b:List az)(t:Int):ga (a++x::b) a.length t=a++{x with target:=t}::b:=by
 unfold ga
 induction a with
 | nil=>rfl
 | cons y a ao=>simp only[Lz,Lx,List.modify_succ_cons,ao]
structure zs(U:hz)(nk n:Int)(c:List az)(num:Nat)(r:List az×Int):Prop where
 ex:∃s,r.1=c++s/\s.length<=2*num/\∀x∈s,h7 U r.2 nk r.1.length x
 le:n<=r.2
 ge:r.2<=n+num
theorem zs.step{U:hz}{nk n aP:Int}{c m:List az}{k num:Nat}{r:List az×Int}(hm:m.length<=2*k)(bM:∀x∈m,h7 U aP nk (c++m).length x)(hn:n<=aP)(cP:aP<=n+k)(h:zs U nk aP (c++m) num r):zs U nk n c (num+k) r:=by
 obtain⟨⟨s,hs,hl,ap⟩,hle,ai⟩:=h;refine⟨⟨m++s,by rw[hs,Ly],by simp;omega,λx hx=>?_⟩,ad,ad⟩;rcases Lt.1 hx with hx|hx
 .exact(bM x hx).mono hle (by rw[hs];simp)
 .exact ap x hx
theorem dV{U:hz}{G:Env}{nk:Int}:∀(b:an) (d:Nat) (l:List dO) (V T:L4) (n:Int) (c:List az),e6 G d V T b->Sc U G l V T n nk->zs U nk n c b.num (dL b l n c)
 | .nil,d,l,V,T,n,c,_,_=>⟨⟨[],by simp[dL],by simp,λx h=>by simp at h⟩,Int.le_refl _,by simp[dL,an.num]⟩
 | .set true s e rest,d,l,V,T,n,c,h,hS=>by
  have F:bH s.data.toList=true/\s∉T/\e.src V 2/\e6 G d (V++[s]) (T++[s]) rest:=by cases d<;>exact h
  have ao:=dV rest d _ _ _ (n+1) (c++[lE n false (bO l e)]) F.2.2.2 (hS.add F.2.1);refine zs.step (m:=[lE n false (bO l e)]) (k:=1) (by simp) (λx hx=>?_) ad ad ao;have:x=lE n false (bO l e):=by simpa using hx
  subst this
  exact .inl ⟨rfl,⟨_,rfl,(ia hS 2 e F.2.2.1).mono ad⟩,hS.n0,(λh=>by cases h),λ_=>by show n<n+1;omega⟩
 | .set false s e rest,d,l,V,T,n,c,h,hS=>by
  have F:s∈V/\e.src V 2/\e6 G d V T rest:=by cases d<;>exact h
  have ao:=dV rest d _ _ _ n (c++[lE (jn l s) (ux l s == 1) (bO l e)]) F.2.2 hS;refine zs.step (m:=[lE (jn l s) (ux l s == 1) (bO l e)]) (k:=1) (by simp) (λx hx=>?_) (Int.le_refl _) ad ao;have:x=lE (jn l s) (ux l s == 1) (bO l e):=by simpa using hx
  subst this;obtain⟨v,bG,ap⟩:=hS.vars s F.1;have e1:jn l s=v.n:=by simp[jn,bG]
  have e2:ux l s=v.kind:=by simp[ux,bG]
  rw[e1,e2];refine .inl ⟨rfl,⟨_,rfl,ia hS 2 e F.2.1⟩,?_,λa9=>?_,λa9=>?_⟩
  .show 0<=v.n;omega
  .have i:v.kind=1:=by simpa[lE] using a9
   show v.n<_
   omega
  .have i:¬v.kind=1:=by simpa[lE] using a9
   show v.n<n
   omega
 | .call g s aV rest,d,l,V,T,n,c,h,hS=>by
  have F:(∃ps,(s,ps)∈G.funcs/\iR G V ps aV)/\e6 G d V T rest:=by cases d<;>exact h
  obtain⟨⟨ps,J,has⟩,ba⟩:=F;have ao:=dV rest d _ _ _ n (c++[lK g (jn l s) (bW l aV) (cB l aV)]) ba hS;refine zs.step (m:=[lK g (jn l s) (bW l aV) (cB l aV)]) (k:=1) (by simp) (λx hx=>?_) (Int.le_refl _) ad ao;have:x=lK g (jn l s) (bW l aV) (cB l aV):=by simpa using hx
  subst this;obtain⟨v,bG,_,h0,hu⟩:=hS.fns s ps J;have e1:jn l s=v.n:=by simp[jn,bG]
  obtain⟨q,y,a3,a4⟩:=s5 hS ps aV has;rw[e1]
  exact .inr (.inl ⟨by cases g<;>simp[lK],rfl,_,h0,hu,q,y,a3,a4⟩)
 | .lock u r rest,d,l,V,T,n,c,h,hS=>by
  have F:su G V r/\e6 G d V T rest:=by cases d<;>exact h
  have ao:=dV rest d _ _ _ n (c++[qk u (mo l r)]) F.2 hS;refine zs.step (m:=[qk u (mo l r)]) (k:=1) (by simp) (λx hx=>?_) (Int.le_refl _) ad ao;have:x=qk u (mo l r):=by simpa using hx
  subst this
  exact .inr (.inr (.inl ⟨by cases u<;>simp[qk],rfl,yo hS r F.1⟩))
 | .ret rest,d,l,V,T,n,c,h,hS=>by
  have F:e6 G d V T rest:=by cases d<;>exact h
  have ao:=dV rest d _ _ _ n (c++[nF]) F hS;refine zs.step (m:=[nF]) (k:=1) (by simp) (λx hx=>?_) (Int.le_refl _) ad ao;have:x=nF:=by simpa using hx
  subst this
  exact .inr (.inr (.inr (.inr (.inr ⟨rfl,rfl⟩))))
 | .ite e th el rest,0,l,V,T,n,c,h,hS=>h.elim
 | .gz e th rest,0,l,V,T,n,c,h,hS=>h.elim
 | .ite e th el rest,d+1,l,V,T,n,c,h,hS=>by
  have i1:=dV th d l V T n (c++[ks (bO l e) 0]) h.2.1 hS;have aw:=ia hS 2 e h.1;unfold dL;simp only[];generalize dL th l n (c++[ks (bO l e) 0])=p at *;obtain⟨⟨s1,cr,hj,cd⟩,bg,dd⟩:=i1;obtain⟨bf,n1⟩:=p;simp only[] at *;have o:bf=c++ks (bO l e) 0::s1:=by rw[cr];simp
  cases hn:el.isNil with
  | true=>
   simp only[if_true];have L:ga bf c.length bf.length=c++ks (bO l e) bf.length::s1:=by
    generalize (bf.length:Int)=t;rw[o];exact px c _ s1 t
   rw[L];have i3:=dV rest (d+1) l V T n1 (c++ks (bO l e) bf.length::s1) h.2.2.2 (hS.mono bg);have hlen:bf.length=c.length+s1.length+1:=by rw[o];simp;omega
   have:=zs.step (k:=th.num+el.num+1) (n:=n) (m:=ks (bO l e) bf.length::s1) (by simp;omega) (λx hx=>?_) bg ad i3
   .rw[show (an.ite e th el rest).num=rest.num+(th.num+el.num+1) by simp only[an.num];omega];exact this
   .rcases LC.1 hx with rfl|hx
    .exact .inr (.inr (.inr (.inl ⟨rfl,rfl,⟨_,rfl,aw.mono bg⟩,by show (0:Int)<=(bf.length:Int);omega,by show (bf.length:Int)<=_;rw[hlen];simp;omega⟩)))
    .exact(cd x hx).mono (Int.le_refl _) (by rw[hlen];simp;omega)
  | false=>
   simp only[LS,if_false];have L:ga (bf++[er 0]) c.length (bf.length+1:Nat)=c++ks (bO l e) (bf.length+1:Nat)::(s1++[er 0]):=by
    generalize ((bf.length+1:Nat):Int)=t;rw[o,Ly,Lz];exact px c _ _ t
   have hlen:bf.length=c.length+s1.length+1:=by rw[o];simp;omega
   rw[L];have i2:=dV el d l V T n1 (c++ks (bO l e) (bf.length+1:Nat)::(s1++[er 0])) h.2.2.1 (hS.mono bg);generalize dL el l n1 (c++ks (bO l e) (bf.length+1:Nat)::(s1++[er 0]))=k at *;obtain⟨⟨s2,bN,bc,b0⟩,fz,fy⟩:=i2;obtain⟨cv,n2⟩:=k;simp only[] at *;have f:cv=(c++ks (bO l e) (bf.length+1:Nat)::s1)++er 0::s2:=by rw[bN];simp
   have j:ga cv bf.length cv.length=(c++ks (bO l e) (bf.length+1:Nat)::s1)++er cv.length::s2:=by
    have bp:bf.length=(c++ks (bO l e) (bf.length+1:Nat)::s1).length:=by rw[hlen];simp;omega
    generalize (cv.length:Int)=t;rw[f,congrArg (ga _) bp];exact px _ _ s2 t
   have a:cv.length=c.length+s1.length+s2.length+2:=by rw[f];simp;omega
   rw[j,Ly,Lz];have i3:=dV rest (d+1) l V T n2 (c++ks (bO l e) (bf.length+1:Nat)::(s1++er cv.length::s2)) h.2.2.2 (hS.mono ad);have:=zs.step (k:=th.num+el.num+1) (n:=n) (m:=ks (bO l e) (bf.length+1:Nat)::(s1++er cv.length::s2)) (by simp;omega) (λx hx=>?_) ad ad i3
   .rw[show (an.ite e th el rest).num=rest.num+(th.num+el.num+1) by simp only[an.num];omega];exact this
   .rcases LC.1 hx with rfl|hx
    .exact .inr (.inr (.inr (.inl ⟨rfl,rfl,⟨_,rfl,aw.mono ad⟩,by show (0:Int)<=((bf.length+1:Nat):Int);omega,by show ((bf.length+1:Nat):Int)<=_;rw[hlen];simp;omega⟩)))
    .rcases Lt.1 hx with hx|hx
     .exact(cd x hx).mono ad (by rw[hlen];simp;omega)
     .rcases LC.1 hx with rfl|hx
      .exact .inr (.inr (.inr (.inr (.inl ⟨rfl,rfl,by show (0:Int)<=(cv.length:Int);omega,by show (cv.length:Int)<=_;rw[a];simp;omega⟩))))
      .exact(b0 x hx).mono (Int.le_refl _) (by rw[a];simp;omega)
 | .gz e th rest,d+1,l,V,T,n,c,h,hS=>by
  have i1:=dV th d l V T n (c++[ks (bO l e) 0]) h.2.1 hS;have aw:=ia hS 2 e h.1;unfold dL;simp only[];generalize dL th l n (c++[ks (bO l e) 0])=p at *;obtain⟨⟨s1,cr,hj,cd⟩,bg,dd⟩:=i1;obtain⟨bf,n1⟩:=p;simp only[] at *;have o:bf=c++ks (bO l e) 0::s1:=by rw[cr];simp
  have hlen:bf.length=c.length+s1.length+1:=by rw[o];simp;omega
  have L:ga (bf++[er c.length]) c.length (bf.length+1:Nat)=c++ks (bO l e) (bf.length+1:Nat)::(s1++[er c.length]):=by
   generalize ((bf.length+1:Nat):Int)=t;rw[o,Ly,Lz];exact px c _ _ t
  rw[L];have i3:=dV rest (d+1) l V T n1 (c++ks (bO l e) (bf.length+1:Nat)::(s1++[er c.length])) h.2.2 (hS.mono bg);have:=zs.step (k:=th.num+1) (n:=n) (m:=ks (bO l e) (bf.length+1:Nat)::(s1++[er c.length])) (by simp;omega) (λx hx=>?_) bg ad i3
  .rw[show (an.gz e th rest).num=rest.num+(th.num+1) by simp only[an.num];omega];exact this
  .rcases LC.1 hx with rfl|hx
   .exact .inr (.inr (.inr (.inl ⟨rfl,rfl,⟨_,rfl,aw.mono bg⟩,by show (0:Int)<=((bf.length+1:Nat):Int);omega,by show ((bf.length+1:Nat):Int)<=_;rw[hlen];simp;omega⟩)))
   .rcases Lt.1 hx with hx|hx
    .exact(cd x hx).mono (Int.le_refl _) (by rw[hlen];simp;omega)
    .have:x=er c.length:=by simpa using hx
     subst this;exact .inr (.inr (.inr (.inr (.inl ⟨rfl,rfl,by show (0:Int)<=(c.length:Int);omega,by show (c.length:Int)<=_;simp;omega⟩))))
theorem la{l:List dO}(hn:(l.map (·.name)).Nodup)(he:e∈l):dD l e.name=some e:=by
 induction l with
 | nil=>simp at he
 | cons x l ao=>
  simp only[Lq,List.nodup_cons] at hn;unfold dD at *;rcases LC.1 he with rfl|he
  .simp
  .rw[List.find?_cons_of_neg,ao hn.2 he];simp only[LR];intro hx;exact hn.1 (by rw[hx];exact LL.2 ⟨e,he,rfl⟩)
theorem oe{α:Type}(f:α->ByteArray)(k:Int):∀(l:List α) (i:Nat),(iE f k l i).map (·.name)=l.map f
 | [],_=>rfl
 | x::l,i=>by simp only[iE,Lq,oe f k l (i+1)]
theorem ih{α:Type}(f:α->ByteArray)(k:Int):∀(l:List α) (i j:Nat) (x:α),l[j]?=some x->⟨f x,k,((i+j:Nat):Int)⟩∈iE f k l i
 | [],i,j,x,h=>by simp at h
 | y::l,i,0,x,h=>by
  simp only[List.getElem?_cons_zero,LP] at h;subst h
  simp[iE]
 | y::l,i,j+1,x,h=>by
  simp only[List.getElem?_cons_succ] at h;have:=ih f k l (i+1) j x h;rw[show i+1+j=i+(j+1) by omega] at this;rw[iE];exact List.mem_cons_of_mem _ this
theorem fP:∀(ps:List (ByteArray×Bool)) (i k:Int),(dU ps i k).map (·.name)=ps.map (·.1)
 | [],_,_=>rfl
 | (s,true)::l,i,k=>by simp only[dU,Lq,fP l]
 | (s,false)::l,i,k=>by simp only[dU,Lq,fP l]
theorem gQ(s:ByteArray)(b:Bool)(ps:List (ByteArray×Bool)):cd ((s,b)::ps)=cd ps+(if b then 0 else 1)/\bU ((s,b)::ps)=bU ps+(if b then 1 else 0):=by
 cases b<;>simp[cd,bU]
theorem iK(ps:List (ByteArray×Bool)):0<=cd ps/\0<=bU ps:=⟨Int.natCast_nonneg _,Int.natCast_nonneg _⟩
theorem nL:∀(ps:List (ByteArray×Bool)) (i k:Int) (s:ByteArray),(s,true)∈ps->∃e∈dU ps i k,e.name=s/\e.kind=5/\k<=e.n/\e.n<k+bU ps
 | [],_,_,s,h=>by simp at h
 | (x,b)::l,i,k,s,h0=>by
  have hc:=(gQ x b l).2;have bq:=(iK l).2;rcases LC.1 h0 with h|h
  .injection h with ac au;subst ac au;rw[hc];exact⟨⟨s,5,k⟩,by simp[dU],rfl,rfl,Int.le_refl _,by simp;omega⟩
  .cases b with
   | true=>
    obtain⟨e,he,ac,au,aY,bR⟩:=nL l i (k+1) s h;rw[hc]
    exact⟨e,by simp[dU,he],ac,au,ad,by simp;omega⟩
   | false=>
    obtain⟨e,he,ac,au,aY,bR⟩:=nL l (i+1) k s h;rw[hc];exact⟨e,by simp[dU,he],ac,au,ad,by simp;omega⟩
theorem qH:∀(ps:List (ByteArray×Bool)) (i k:Int) (s:ByteArray),(s,false)∈ps->∃e∈dU ps i k,e.name=s/\e.kind=4/\i<=e.n/\e.n<i+cd ps
 | [],_,_,s,h=>by simp at h
 | (x,b)::l,i,k,s,h0=>by
  have hc:=(gQ x b l).1;have bq:=(iK l).1;rcases LC.1 h0 with h|h
  .injection h with ac au;subst ac au;rw[hc];exact⟨⟨s,4,i⟩,by simp[dU],rfl,rfl,Int.le_refl _,by simp;omega⟩
  .cases b with
   | true=>
    obtain⟨e,he,ac,au,aY,bR⟩:=qH l i (k+1) s h;rw[hc]
    exact⟨e,by simp[dU,he],ac,au,ad,by simp;omega⟩
   | false=>
    obtain⟨e,he,ac,au,aY,bR⟩:=qH l (i+1) k s h;rw[hc];exact⟨e,by simp[dU,he],ac,au,ad,by simp;omega⟩
theorem fS(p:bP):(br p).map (·.name)=bk p:=by
 simp only[br,bk,fu,Lr,oe]
def bC(u:ay):hz:=⟨u.globals.length,u.af,u.procs.map λp=>(p.ints,p.au)⟩
structure qK(U:hz)(p:cM):Prop where
 ints:0<=p.ints/\p.ints<=p.locals/\p.locals<=200
 au:0<=p.au/\p.au<=100
 code:∃s,p.code=s++[nF]/\s.length<=200/\∀x∈s,h7 U p.locals p.au s.length x
structure c5(u:ay):Prop where
 procs:∀p∈u.procs,qK (bC u) p
 EH:u.procs.length<=16
 main:∃p,0<=u.main/\u.procs[u.main.toNat]?=some p/\p.ints=0/\p.au=0
 wV:u.af.length<=12
 fB:∀m∈u.af,0<=m.size/\m.size<=64
 ou:u.globals.length<=16
 globals:∀g∈u.globals,-9223372036854775807<=g/\g<=9223372036854775807
theorem oD(p:bP):bC (gq p)=⟨p.globals.length,p.af,p.funcs.map λf=>(cd f.params,bU f.params)⟩:=by
 simp only[bC,gq,Lo,List.map_map];rfl
theorem vi(hp:oR p)(J:f∈p.funcs):
  Sc (bC (gq p)) (h3 p f) (br p++dU f.params 0 0) (fu p++cw f.params) (bk p++f.params.map (·.1)) (cd f.params) (bU f.params):=by
 have hF:=hp.funcs f J;have a5:((br p++dU f.params 0 0).map (·.name)).Nodup:=by
  rw[Lr,fS,fP];exact hF.fresh
 have ak:=λe (he:e∈br p++dU f.params 0 0)=>la a5 he;rw[oD];constructor
 .intro s hs;rcases Lt.1 hs with hs|hs
  .obtain⟨g,a9,rfl⟩:=LL.1 hs;obtain⟨i,an⟩:=List.getElem?_of_mem a9;have:=ak _ (Lt.2 (.inl (by unfold br;exact Lt.2 (.inl (Lt.2 (.inl (ih (·.1) 1 p.globals 0 i g an)))))));refine⟨_,this,.inl ⟨rfl,by show (0:Int)<=((0+i:Nat):Int);omega,?_⟩⟩;have:=(List.getElem?_eq_some_iff.1 an).1;show ((0+i:Nat):Int)<(p.globals.length:Int)
   omega
  .obtain⟨⟨q,b⟩,bA,rfl⟩:=LL.1 hs;obtain⟨ei,b0⟩:=List.mem_filter.1 bA;have O:b=false:=by simpa using b0
   subst O;obtain⟨e,he,ac,au,aY,bR⟩:=qH f.params 0 0 q ei;have:=ak e (Lt.2 (.inr he));rw[ac] at this;exact⟨e,this,.inr ⟨au,aY,ad⟩⟩
 .intro m hm;obtain⟨i,an⟩:=List.getElem?_of_mem hm;have:=ak _ (Lt.2 (.inl (by unfold br;exact Lt.2 (.inl (Lt.2 (.inr (ih (·.name) 2 p.af 0 i m an)))))));refine⟨_,this,rfl,by show (0:Int)<=((0+i:Nat):Int);omega,?_⟩;show p.af[(((0+i:Nat):Int)).toNat]?=some m
  rw[LI,LF];exact an
 .intro s hs;obtain⟨e,he,ac,au,aY,bR⟩:=nL f.params 0 0 s hs;have:=ak e (Lt.2 (.inr he));rw[ac] at this;exact⟨e,this,au,aY,ad⟩
 .intro s ps hs;obtain⟨g,a9,bz⟩:=LL.1 hs;injection bz with b2 bH;subst b2 bH;obtain⟨i,an⟩:=List.getElem?_of_mem a9;have:=ak _ (Lt.2 (.inl (by unfold br;exact Lt.2 (.inr (ih (·.name) 3 p.funcs 0 i g an)))));refine⟨_,this,rfl,by show (0:Int)<=((0+i:Nat):Int);omega,?_⟩;show (p.funcs.map λf=>(cd f.params,bU f.params))[(((0+i:Nat):Int)).toNat]?=_
  rw[LI,LF,List.getElem?_map,an];rfl
 .intro e he;have:e.name∈(br p++dU f.params 0 0).map (·.name):=LL.2 ⟨e,he,rfl⟩;rw[Lr,fS,fP] at this;exact this
 .exact(iK _).1
theorem jq{α:Type}(g:α->Nat){l:List α}{x:α}(h:x∈l):g x<=(l.map g).sum:=by
 induction l with
 | nil=>simp at h
 | cons y l ao=>
  simp only[Lq,List.sum_cons];rcases LC.1 h with rfl|h
  .omega
  .have:=ao h;omega
theorem mV(ps:List (ByteArray×Bool)):cd ps<=ps.length/\bU ps<=ps.length:=by
 unfold cd bU;have ac:=List.length_filter_le (λq:ByteArray×Bool=>!q.2) ps;have au:=List.length_filter_le (λq:ByteArray×Bool=>q.2) ps;omega
theorem F4(hp:oR p)(J:f∈p.funcs):qK (bC (gq p)) (ez p f):=by
 have hF:=hp.funcs f J;obtain⟨⟨s,hs,hl,ap⟩,hle,ai⟩:=dV f.body 4 _ _ _ (cd f.params) [] hF.body (vi hp J);have K:f.body.num<=64:=LD (jq (λf:aK=>f.body.num) J) hp.jF;have L:=hF.jF;have hn:=mV f.params;have bq:=iK f.params;refine⟨⟨bq.1,hle,?_⟩,⟨bq.2,?_⟩,?_⟩
 .show (dL f.body (br p++dU f.params 0 0) (cd f.params) []).2<=200
  omega
 .show bU f.params<=100
  omega
 .refine⟨(dL f.body (br p++dU f.params 0 0) (cd f.params) []).1,rfl,?_,?_⟩
  .rw[hs];simp;omega
  .intro x hx;have g:x∈s:=by rw[hs] at hx;simpa using hx
   exact ap x g
theorem yd(hp:oR p):c5 (gq p):=by
 refine⟨λq bA=>?_,?_,?_,hp.wV,λm hm=>⟨(hp.fB m hm).1,(hp.fB m hm).2.1⟩,?_,λg a9=>?_⟩
 .obtain⟨f,J,rfl⟩:=LL.1 bA;exact F4 hp J
 .show (p.funcs.map (ez p)).length<=16
  rw[Lo];exact hp.EG
 .obtain⟨i,f,an,hn,cg⟩:=hp.main;have a5:((br p).map (·.name)).Nodup:=by rw[fS];exact hp.nodup
  have he:=la a5 (show _∈br p by unfold br;exact Lt.2 (.inr (ih (·.name) 3 p.funcs 0 i f an)));have hm:(gq p).main=(i:Int):=by
   show jn (br p) iJ=(i:Int)
   simp only[hn,LF] at he;unfold jn;rw[show iJ=⟨#[109,97,105,110]⟩ from rfl,he]
  refine⟨ez p f,by rw[hm];omega,?_,?_,?_⟩
  .rw[hm,LI];show (p.funcs.map (ez p))[i]?=_
   rw[List.getElem?_map,an];rfl
  .show cd f.params=0
   rw[cg];rfl
  .show bU f.params=0
   rw[cg];rfl
 .show (p.globals.map (·.2)).length<=16
  rw[Lo];exact hp.ou
 .obtain⟨k,ap,rfl⟩:=LL.1 a9;exact hp.inits k ap
end Go.Proofs.YtkhnkojkplbioaaGreat

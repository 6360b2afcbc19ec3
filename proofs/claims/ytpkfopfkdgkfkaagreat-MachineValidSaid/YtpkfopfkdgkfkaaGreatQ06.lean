/- Part 6 of the proof. No condition of its own. -/
import Derived.Test.YtpkfopfkdgkfkaaGreatQ03
namespace Go.Proofs.YtpkfopfkdgkfkaaGreat
open Go.RowKit Go.Proofs.Tryz
set_option maxRecDepth 1000000
set_option maxHeartbeats 25600000
set_option linter.unusedVariables false
variable{s:ByteArray}{f:aL}{p:bQ}
structure dQ where
 name:ByteArray
 kind:Int
 n:Int
def dJ(l:List dQ)(s:ByteArray):Option dQ:=l.find? λe=>decide (e.name=s)
def bP(l:List dQ):VE->VE
 | .num n=>.num n
 | .hg s=>match dJ l s with
  | some e=>if e.kind=1 then .iI e.n else .loc e.n
  | none=>.loc 0
 | .loc k=>.loc k
 | .iI k=>.iI k
 | .un op x=>.un op (bP l x)
 | .bin op x y=>.bin op (bP l x) (bP l y)
def mh(l:List dQ)(r:e4):bU:=
 match dJ l r.name with
 | some v=>⟨v.kind == 5,v.n,r.idx.map (bP l)⟩
 | none=>⟨false,0,r.idx.map (bP l)⟩
def jo(l:List dQ)(s:ByteArray):Int:=match dJ l s with
 | some v=>v.n
 | none=>0
def tX(l:List dQ)(s:ByteArray):Int:=match dJ l s with
 | some v=>v.kind
 | none=>0
def bW(l:List dQ):List dt->List VE
 | []=>[]
 | .ex e::aW=>bP l e::bW l aW
 | .mx _::aW=>bW l aW
def cG(l:List dQ):List dt->List bU
 | []=>[]
 | .ex _::aW=>cG l aW
 | .mx r::aW=>mh l r::cG l aW
def kn:bU:=⟨false,0,none⟩
def lE(t:Int)(g:Bool)(e:VE):aC:=⟨1,t,g,some e,kn,[],[]⟩
def lJ(g:Bool)(t:Int)(is:List VE)(ps:List bU):aC:=⟨if g then 3 else 2,t,false,none,kn,is,ps⟩
def p5(u:Bool)(p:bU):aC:=⟨if u then 5 else 4,0,false,none,p,[],[]⟩
def kA(e:VE)(t:Int):aC:=⟨6,t,false,some e,kn,[],[]⟩
def eA(t:Int):aC:=⟨7,t,false,none,kn,[],[]⟩
def nw:aC:=⟨8,0,false,none,kn,[],[]⟩
def gm(c:List aC)(b:Nat)(t:Int):List aC:=c.modify b λx=>{x with target:=t}
def dN:ao->List dQ->Int->List aC->List aC×Int
 | .nil,_,n,c=>(c,n)
 | .set true s e rest,l,n,c=>dN rest (l++[⟨s,4,n⟩]) (n+1) (c++[lE n false (bP l e)])
 | .set false s e rest,l,n,c=>dN rest l n (c++[lE (jo l s) (tX l s == 1) (bP l e)])
 | .call g s aW rest,l,n,c=>dN rest l n (c++[lJ g (jo l s) (bW l aW) (cG l aW)])
 | .lock u r rest,l,n,c=>dN rest l n (c++[p5 u (mh l r)])
 | .ite e th el rest,l,n,c=>
  let p:=dN th l n (c++[kA (bP l e) 0])
  let q:=if el.isNil then (gm p.1 c.length p.1.length,p.2) else
   let k:=dN el l p.2 (gm (p.1++[eA 0]) c.length (p.1.length+1:Nat))
   (gm k.1 p.1.length k.1.length,k.2)
  dN rest l q.2 q.1
 | .gI e th rest,l,n,c=>
  let p:=dN th l n (c++[kA (bP l e) 0])
  dN rest l p.2 (gm (p.1++[eA c.length]) c.length (p.1.length+1:Nat))
 | .ret rest,l,n,c=>dN rest l n (c++[nw])
def iH{α:Type}(f:α->ByteArray)(k:Int):List α->Nat->List dQ
 | [],_=>[]
 | x::l,i=>⟨f x,k,i⟩::iH f k l (i+1)
def bp(p:bQ):List dQ:=iH (·.1) 1 p.globals 0++iH (·.name) 2 p.af 0++iH (·.name) 3 p.funcs 0
def dY:List (ByteArray×Bool)->Int->Int->List dQ
 | [],_,_=>[]
 | (s,true)::l,i,k=>⟨s,5,k⟩::dY l i (k+1)
 | (s,false)::l,i,k=>⟨s,4,i⟩::dY l (i+1) k
def cj(ps:List (ByteArray×Bool)):Int:=((ps.filter λq=>!q.2).length:Nat)
def bV(ps:List (ByteArray×Bool)):Int:=((ps.filter λq=>q.2).length:Nat)
def eG(p:bQ)(f:aL):cM:=
 let q:=dN f.body (bp p++dY f.params 0 0) (cj f.params) []
 ⟨f.name,cj f.params,bV f.params,q.2,q.1++[nw]⟩
def iL:ByteArray:=⟨#[109,97,105,110]⟩
def gB(p:bQ):aA:=⟨p.globals.map (·.2),p.af,p.funcs.map (eG p),jo (bp p) iL⟩
def VE.lit:VE->Prop
 | .num n=>0<=n/\n<=9223372036854775807
 | .un _ x=>x.lit
 | .bin _ x y=>x.lit/\y.lit
 | _=>True
structure hO where
 ng:Nat
 af:List bM
 sig:List (Int×Int)
def gw(U:hO)(nl:Int)(e:VE):Prop:=e.ok U.ng nl.toNat/\e.lit
def c4(U:hO)(nl nk:Int)(p:bU):Prop:=
 (p.param=true/\0<=p.index/\p.index<nk/\p.at_=none)\/
 (p.param=false/\∃m,0<=p.index/\U.af[p.index.toNat]?=some m/\(0<m.size->∃e,p.at_=some e/\gw U nl e)/\(¬0<m.size->p.at_=none))
def ie(U:hO)(nl nk:Int)(len:Nat)(x:aC):Prop:=
 (x.op=1/\(∃e,x.expr=some e/\gw U nl e)/\0<=x.target/\(x.dv=true->x.target<U.ng)/\(x.dv=false->x.target<nl))\/
 ((x.op=2\/x.op=3)/\x.dv=false/\∃s,0<=x.target/\U.sig[x.target.toNat]?=some s/\(x.ints.length:Int)=s.1/\(x.places.length:Int)=s.2/\(∀e∈x.ints,gw U nl e)/\∀p∈x.places,c4 U nl nk p)\/
 ((x.op=4\/x.op=5)/\x.dv=false/\c4 U nl nk x.place)\/
 (x.op=6/\x.dv=false/\(∃e,x.expr=some e/\gw U nl e)/\0<=x.target/\x.target<=len)\/
 (x.op=7/\x.dv=false/\0<=x.target/\x.target<=len)\/
 (x.op=8/\x.dv=false)
structure Sc(U:hO)(G:Env)(l:List dQ)(V T:Mu)(n nk:Int):Prop where
 vars:∀s∈V,∃e,dJ l s=some e/\((e.kind=1/\0<=e.n/\e.n<U.ng)\/(e.kind=4/\0<=e.n/\e.n<n))
 JJ:∀m∈G.af,∃e,dJ l m.name=some e/\e.kind=2/\0<=e.n/\U.af[e.n.toNat]?=some m
 E7:∀s,(s,true)∈G.params->∃e,dJ l s=some e/\e.kind=5/\0<=e.n/\e.n<nk
 fns:∀s ps,(s,ps)∈G.funcs->∃e,dJ l s=some e/\e.kind=3/\0<=e.n/\U.sig[e.n.toNat]?=some (cj ps,bV ps)
 taken:∀e∈l,e.name∈T
 n0:0<=n
variable{e:dQ}
theorem jH{l:List dQ}{x:dQ}(h:dJ l s=some e):dJ (l++[x]) s=some e:=by
 unfold dJ at *;rw[List.find?_append,h];rfl
theorem yO{l:List dQ}{T:Mu}(ht:∀e∈l,e.name∈T)(hs:s∉T)(k n:Int):dJ (l++[⟨s,k,n⟩]) s=some ⟨s,k,n⟩:=by
 unfold dJ;rw[List.find?_append,List.find?_eq_none.2 (λe he=>by
  simp only[Ml];rintro rfl;exact hs (ht e he))]
 simp
section
variable {U:hO} {G:Env} {l:List dQ} {V T:Mu} {n a6 nk:Int}
theorem Sc.mono(h:Sc U G l V T n nk)(hn:n<=a6):Sc U G l V T a6 nk:=
 ⟨λs hs=>by obtain⟨e,he,aj⟩:=h.vars s hs;exact⟨e,he,aj.imp id λ⟨a,b,c⟩=>⟨a,b,ad⟩⟩,h.JJ,h.E7,h.fns,h.taken,by have:=h.n0;omega⟩
theorem Sc.add(h:Sc U G l V T n nk)(hs:s∉T):Sc U G (l++[⟨s,4,n⟩]) (V++[s]) (T++[s]) (n+1) nk where
 vars:=λx hx=>by
  rcases LU.1 hx with hx|hx
  .obtain⟨e,he,aj⟩:=h.vars x hx;exact⟨e,jH he,aj.imp id λ⟨a,b,c⟩=>⟨a,b,ad⟩⟩
  .have:x=s:=by simpa using hx
   subst this;exact⟨_,yO h.taken hs 4 n,.inr ⟨rfl,h.n0,by show n<n+1;omega⟩⟩
 JJ:=λm hm=>by obtain⟨e,he,r⟩:=h.JJ m hm;exact⟨e,jH he,r⟩
 E7:=λx hx=>by obtain⟨e,he,r⟩:=h.E7 x hx;exact⟨e,jH he,r⟩
 fns:=λx ps hx=>by obtain⟨e,he,r⟩:=h.fns x ps hx;exact⟨e,jH he,r⟩
 taken:=λe he=>by
  rcases LU.1 he with he|he
  .exact LU.2 (.inl (h.taken e he))
  .have:e=⟨s,4,n⟩:=by simpa using he
   subst this;simp
 n0:=by have:=h.n0;omega
end
theorem o2{ng nl a:Nat}(h:nl<=a):∀x:VE,x.ok ng nl->x.ok ng a
 | .num _,_=>trivial
 | .hg _,E=>E.elim
 | .loc k,E=>⟨E.1,by have:=E.2;omega⟩
 | .iI k,E=>E
 | .un _ x,E=>⟨E.1,o2 h x E.2⟩
 | .bin _ x y,E=>⟨E.1,o2 h x E.2.1,o2 h y E.2.2⟩
theorem gw.mono{U:hO}{n a6:Int}{e:VE}(h:gw U n e)(hn:n<=a6):gw U a6 e:=⟨o2 (nl:=n.toNat) (a:=a6.toNat) ad e h.1,h.2⟩
theorem c4.mono{U:hO}{n a6 nk:Int}{p:bU}(h:c4 U n nk p)(hn:n<=a6):c4 U a6 nk p:=
 h.imp id λ⟨a,m,b,c,d,e⟩=>⟨a,m,b,c,λhs=>by obtain⟨x,hx,aj⟩:=d hs;exact⟨x,hx,aj.mono hn⟩,e⟩
theorem ie.mono{U:hO}{n a6 nk:Int}{k F:Nat}{x:aC}(h:ie U n nk k x)(hn:n<=a6)(aj:k<=F):ie U a6 nk F x:=by
 rcases h with⟨ac,⟨e,he,bn⟩,ap,aV,bz⟩|⟨ac,aR,s,ap,aV,bz,cI,bM,j⟩|⟨ac,aR,ap⟩|⟨ac,aR,⟨e,he,bn⟩,ap,aV⟩|⟨ac,aR,ap,aV⟩|h
 .exact .inl ⟨ac,⟨e,he,bn.mono hn⟩,ap,aV,λh=>by have:=bz h;omega⟩
 .exact .inr (.inl ⟨ac,aR,s,ap,aV,bz,cI,λe he=>(bM e he).mono hn,λp hp=>(j p hp).mono hn⟩)
 .exact .inr (.inr (.inl ⟨ac,aR,ap.mono hn⟩))
 .exact .inr (.inr (.inr (.inl ⟨ac,aR,⟨e,he,bn.mono hn⟩,ap,ad⟩)))
 .exact .inr (.inr (.inr (.inr (.inl ⟨ac,aR,ap,ad⟩))))
 .exact .inr (.inr (.inr (.inr (.inr h))))
section
variable {U:hO} {G:Env} {l:List dQ} {V T:Mu} {n nk:Int} (hS:Sc U G l V T n nk)
include hS
theorem ik:∀(d:Nat) (x:VE),x.src V d->gw U n (bP l x)
 | d,.num k,h=>by
  have E:0<=k/\k<4611686018427387904:=by cases d<;>exact h
  exact⟨trivial,by show 0<=k/\k<=9223372036854775807;omega⟩
 | d,.hg s,h=>by
  have E:s∈V:=by cases d<;>exact h
  obtain⟨e,he,aj⟩:=hS.vars s E;have hn:=hS.n0;unfold bP;simp only[he];rcases aj with⟨ac,ap,aV⟩|⟨ac,ap,aV⟩
  .rw[if_pos ac];exact⟨⟨ap,aV⟩,trivial⟩
  .rw[if_neg ad]
   exact⟨⟨ap,ad⟩,trivial⟩
 | d,.loc _,h=>by cases d<;>exact h.elim
 | d,.iI _,h=>by cases d<;>exact h.elim
 | 0,.un _ _,h=>h.elim
 | 0,.bin _ _ _,h=>h.elim
 | d+1,.un op x,h=>by
  have Z:=ik d x h.2
  exact⟨⟨h.1,Z.1⟩,Z.2⟩
 | d+1,.bin op x y,h=>by
  have i:=ik d x h.2.1;have c:=ik d y h.2.2;exact⟨⟨h.1,i.1,c.1⟩,i.2,c.2⟩
theorem yi(r:e4)(h:sc G V r):c4 U n nk (mh l r):=by
 unfold mh;rcases h with⟨m,hm,hn,ac,ap⟩|⟨hp,aX⟩
 .obtain⟨e,he,aj,h0,hu⟩:=hS.JJ m hm;rw[<-hn];simp only[he];refine .inr ⟨by simp[aj],m,h0,hu,λhs=>?_,λhs=>by simp[ap hs]⟩;obtain⟨x,hx,aA⟩:=ac hs;exact⟨bP l x,by simp[hx],ik hS 2 x aA⟩
 .obtain⟨e,he,aj,h0,an⟩:=hS.E7 _ hp;simp only[he];exact .inl ⟨by simp[aj],h0,an,by simp[aX]⟩
theorem sO:∀(ps:List (ByteArray×Bool)) (aW:List dt),iU G V ps aW->
  ((bW l aW).length:Int)=cj ps/\((cG l aW).length:Int)=bV ps/\(∀e∈bW l aW,gw U n e)/\∀p∈cG l aW,c4 U n nk p
 | [],[],_=>⟨rfl,rfl,λe h=>by simp[bW] at h,λe h=>by simp[cG] at h⟩
 | (s,b)::ps,.mx r::aW,h=>by
  obtain⟨ac,ap,aV,bz⟩:=sO ps aW h.2;have O:b=true:=h.1.1;subst O;refine⟨?_,?_,aV,?_⟩
  .simpa[bW,cj] using ac
  .simp only[cG,LZ,bV] at ap ⊢;simp;omega
  .intro p hp;simp only[cG,L5] at hp;rcases hp with rfl|hp
   .exact yi hS r h.1.2
   .exact bz p hp
 | (s,b)::ps,.ex e::aW,h=>by
  obtain⟨ac,ap,aV,bz⟩:=sO ps aW h.2;have O:b=false:=h.1.1;subst O;refine⟨?_,?_,?_,bz⟩
  .simp only[bW,LZ,cj] at ac ⊢;simp;omega
  .simpa[cG,bV] using ap
  .intro p hp;simp only[bW,L5] at hp;rcases hp with rfl|hp
   .exact ik hS 2 e h.1.2
   .exact aV p hp
 | [],_::_,h=>h.elim
 | _::_,[],h=>h.elim
end
theorem pd(a:List aC)(x:aC)(b:List aC)(t:Int):gm (a++x::b) a.length t=a++{x with target:=t}::b:=by
 unfold gm
 induction a with
 | nil=>rfl
 | cons y a Z=>simp only[L4,LZ,List.modify_succ_cons,Z]
structure zo(U:hO)(nk n:Int)(c:List aC)(num:Nat)(r:List aC×Int):Prop where
 ex:∃s,r.1=c++s/\s.length<=2*num/\∀x∈s,ie U r.2 nk r.1.length x
 le:n<=r.2
 ge:r.2<=n+num
theorem zo.step{U:hO}{nk n a6:Int}{c m:List aC}{k num:Nat}{r:List aC×Int}(hm:m.length<=2*k)(ca:∀x∈m,ie U a6 nk (c++m).length x)(hn:n<=a6)(aZ:a6<=n+k)(h:zo U nk a6 (c++m) num r):zo U nk n c (num+k) r:=by
 obtain⟨⟨s,hs,hl,aj⟩,hle,ak⟩:=h;refine⟨⟨m++s,by rw[hs,L3],by simp;omega,λx hx=>?_⟩,ad,ad⟩;rcases LU.1 hx with hx|hx
 .exact(ca x hx).mono hle (by rw[hs];simp)
 .exact aj x hx
theorem dZ{U:hO}{G:Env}{nk:Int}:∀(b:ao) (d:Nat) (l:List dQ) (V T:Mu) (n:Int) (c:List aC),fm G d V T b->Sc U G l V T n nk->zo U nk n c b.num (dN b l n c)
 | .nil,d,l,V,T,n,c,_,_=>⟨⟨[],by simp[dN],by simp,λx h=>by simp at h⟩,Int.le_refl _,by simp[dN,ao.num]⟩
 | .set true s e rest,d,l,V,T,n,c,h,hS=>by
  have E:bD s.data.toList=true/\s∉T/\e.src V 2/\fm G d (V++[s]) (T++[s]) rest:=by cases d<;>exact h
  have Z:=dZ rest d _ _ _ (n+1) (c++[lE n false (bP l e)]) E.2.2.2 (hS.add E.2.1);refine zo.step (m:=[lE n false (bP l e)]) (k:=1) (by simp) (λx hx=>?_) ad ad Z;have:x=lE n false (bP l e):=by simpa using hx
  subst this
  exact .inl ⟨rfl,⟨_,rfl,(ik hS 2 e E.2.2.1).mono ad⟩,hS.n0,(λh=>by cases h),λ_=>by show n<n+1;omega⟩
 | .set false s e rest,d,l,V,T,n,c,h,hS=>by
  have E:s∈V/\e.src V 2/\fm G d V T rest:=by cases d<;>exact h
  have Z:=dZ rest d _ _ _ n (c++[lE (jo l s) (tX l s == 1) (bP l e)]) E.2.2 hS;refine zo.step (m:=[lE (jo l s) (tX l s == 1) (bP l e)]) (k:=1) (by simp) (λx hx=>?_) (Int.le_refl _) ad Z;have:x=lE (jo l s) (tX l s == 1) (bP l e):=by simpa using hx
  subst this;obtain⟨v,bE,aj⟩:=hS.vars s E.1;have e1:jo l s=v.n:=by simp[jo,bE]
  have e2:tX l s=v.kind:=by simp[tX,bE]
  rw[e1,e2];refine .inl ⟨rfl,⟨_,rfl,ik hS 2 e E.2.1⟩,?_,λaR=>?_,λaR=>?_⟩
  .show 0<=v.n;omega
  .have j:v.kind=1:=by simpa[lE] using aR
   show v.n<_
   omega
  .have j:¬v.kind=1:=by simpa[lE] using aR
   show v.n<n
   omega
 | .call g s aW rest,d,l,V,T,n,c,h,hS=>by
  have E:(∃ps,(s,ps)∈G.funcs/\iU G V ps aW)/\fm G d V T rest:=by cases d<;>exact h
  obtain⟨⟨ps,J,has⟩,a5⟩:=E;have Z:=dZ rest d _ _ _ n (c++[lJ g (jo l s) (bW l aW) (cG l aW)]) a5 hS;refine zo.step (m:=[lJ g (jo l s) (bW l aW) (cG l aW)]) (k:=1) (by simp) (λx hx=>?_) (Int.le_refl _) ad Z;have:x=lJ g (jo l s) (bW l aW) (cG l aW):=by simpa using hx
  subst this;obtain⟨v,bE,_,h0,hu⟩:=hS.fns s ps J;have e1:jo l s=v.n:=by simp[jo,bE]
  obtain⟨i,y,a3,a4⟩:=sO hS ps aW has;rw[e1]
  exact .inr (.inl ⟨by cases g<;>simp[lJ],rfl,_,h0,hu,i,y,a3,a4⟩)
 | .lock u r rest,d,l,V,T,n,c,h,hS=>by
  have E:sc G V r/\fm G d V T rest:=by cases d<;>exact h
  have Z:=dZ rest d _ _ _ n (c++[p5 u (mh l r)]) E.2 hS;refine zo.step (m:=[p5 u (mh l r)]) (k:=1) (by simp) (λx hx=>?_) (Int.le_refl _) ad Z;have:x=p5 u (mh l r):=by simpa using hx
  subst this
  exact .inr (.inr (.inl ⟨by cases u<;>simp[p5],rfl,yi hS r E.1⟩))
 | .ret rest,d,l,V,T,n,c,h,hS=>by
  have E:fm G d V T rest:=by cases d<;>exact h
  have Z:=dZ rest d _ _ _ n (c++[nw]) E hS;refine zo.step (m:=[nw]) (k:=1) (by simp) (λx hx=>?_) (Int.le_refl _) ad Z;have:x=nw:=by simpa using hx
  subst this
  exact .inr (.inr (.inr (.inr (.inr ⟨rfl,rfl⟩))))
 | .ite e th el rest,0,l,V,T,n,c,h,hS=>h.elim
 | .gI e th rest,0,l,V,T,n,c,h,hS=>h.elim
 | .ite e th el rest,d+1,l,V,T,n,c,h,hS=>by
  have i1:=dZ th d l V T n (c++[kA (bP l e) 0]) h.2.1 hS;have aw:=ik hS 2 e h.1;unfold dN;simp only[];generalize dN th l n (c++[kA (bP l e) 0])=p at *;obtain⟨⟨s1,cq,hl,ce⟩,ca,df⟩:=i1;obtain⟨a1,n1⟩:=p;simp only[] at *;have o:a1=c++kA (bP l e) 0::s1:=by rw[cq];simp
  cases hn:el.isNil with
  | true=>
   simp only[if_true];have L:gm a1 c.length a1.length=c++kA (bP l e) a1.length::s1:=by
    generalize (a1.length:Int)=t;rw[o];exact pd c _ s1 t
   rw[L];have i3:=dZ rest (d+1) l V T n1 (c++kA (bP l e) a1.length::s1) h.2.2.2 (hS.mono ca);have hlen:a1.length=c.length+s1.length+1:=by rw[o];simp;omega
   have:=zo.step (k:=th.num+el.num+1) (n:=n) (m:=kA (bP l e) a1.length::s1) (by simp;omega) (λx hx=>?_) ca ad i3
   .rw[show (ao.ite e th el rest).num=rest.num+(th.num+el.num+1) by simp only[ao.num];omega];exact this
   .rcases L5.1 hx with rfl|hx
    .exact .inr (.inr (.inr (.inl ⟨rfl,rfl,⟨_,rfl,aw.mono ca⟩,by show (0:Int)<=(a1.length:Int);omega,by show (a1.length:Int)<=_;rw[hlen];simp;omega⟩)))
    .exact(ce x hx).mono (Int.le_refl _) (by rw[hlen];simp;omega)
  | false=>
   simp only[Mm,if_false];have L:gm (a1++[eA 0]) c.length (a1.length+1:Nat)=c++kA (bP l e) (a1.length+1:Nat)::(s1++[eA 0]):=by
    generalize ((a1.length+1:Nat):Int)=t;rw[o,L3,L4];exact pd c _ _ t
   have hlen:a1.length=c.length+s1.length+1:=by rw[o];simp;omega
   rw[L];have i2:=dZ el d l V T n1 (c++kA (bP l e) (a1.length+1:Nat)::(s1++[eA 0])) h.2.2.1 (hS.mono ca);generalize dN el l n1 (c++kA (bP l e) (a1.length+1:Nat)::(s1++[eA 0]))=k at *;obtain⟨⟨s2,bS,bc,cu⟩,fz,fx⟩:=i2;obtain⟨cx,n2⟩:=k;simp only[] at *;have f:cx=(c++kA (bP l e) (a1.length+1:Nat)::s1)++eA 0::s2:=by rw[bS];simp
   have q:gm cx a1.length cx.length=(c++kA (bP l e) (a1.length+1:Nat)::s1)++eA cx.length::s2:=by
    have bi:a1.length=(c++kA (bP l e) (a1.length+1:Nat)::s1).length:=by rw[hlen];simp;omega
    generalize (cx.length:Int)=t;rw[f,congrArg (gm _) bi];exact pd _ _ s2 t
   have a:cx.length=c.length+s1.length+s2.length+2:=by rw[f];simp;omega
   rw[q,L3,L4];have i3:=dZ rest (d+1) l V T n2 (c++kA (bP l e) (a1.length+1:Nat)::(s1++eA cx.length::s2)) h.2.2.2 (hS.mono ad);have:=zo.step (k:=th.num+el.num+1) (n:=n) (m:=kA (bP l e) (a1.length+1:Nat)::(s1++eA cx.length::s2)) (by simp;omega) (λx hx=>?_) ad ad i3
   .rw[show (ao.ite e th el rest).num=rest.num+(th.num+el.num+1) by simp only[ao.num];omega];exact this
   .rcases L5.1 hx with rfl|hx
    .exact .inr (.inr (.inr (.inl ⟨rfl,rfl,⟨_,rfl,aw.mono ad⟩,by show (0:Int)<=((a1.length+1:Nat):Int);omega,by show ((a1.length+1:Nat):Int)<=_;rw[hlen];simp;omega⟩)))
    .rcases LU.1 hx with hx|hx
     .exact(ce x hx).mono ad (by rw[hlen];simp;omega)
     .rcases L5.1 hx with rfl|hx
      .exact .inr (.inr (.inr (.inr (.inl ⟨rfl,rfl,by show (0:Int)<=(cx.length:Int);omega,by show (cx.length:Int)<=_;rw[a];simp;omega⟩))))
      .exact(cu x hx).mono (Int.le_refl _) (by rw[a];simp;omega)
 | .gI e th rest,d+1,l,V,T,n,c,h,hS=>by
  have i1:=dZ th d l V T n (c++[kA (bP l e) 0]) h.2.1 hS;have aw:=ik hS 2 e h.1;unfold dN;simp only[];generalize dN th l n (c++[kA (bP l e) 0])=p at *;obtain⟨⟨s1,cq,hl,ce⟩,ca,df⟩:=i1;obtain⟨a1,n1⟩:=p;simp only[] at *;have o:a1=c++kA (bP l e) 0::s1:=by rw[cq];simp
  have hlen:a1.length=c.length+s1.length+1:=by rw[o];simp;omega
  have L:gm (a1++[eA c.length]) c.length (a1.length+1:Nat)=c++kA (bP l e) (a1.length+1:Nat)::(s1++[eA c.length]):=by
   generalize ((a1.length+1:Nat):Int)=t;rw[o,L3,L4];exact pd c _ _ t
  rw[L];have i3:=dZ rest (d+1) l V T n1 (c++kA (bP l e) (a1.length+1:Nat)::(s1++[eA c.length])) h.2.2 (hS.mono ca);have:=zo.step (k:=th.num+1) (n:=n) (m:=kA (bP l e) (a1.length+1:Nat)::(s1++[eA c.length])) (by simp;omega) (λx hx=>?_) ca ad i3
  .rw[show (ao.gI e th rest).num=rest.num+(th.num+1) by simp only[ao.num];omega];exact this
  .rcases L5.1 hx with rfl|hx
   .exact .inr (.inr (.inr (.inl ⟨rfl,rfl,⟨_,rfl,aw.mono ca⟩,by show (0:Int)<=((a1.length+1:Nat):Int);omega,by show ((a1.length+1:Nat):Int)<=_;rw[hlen];simp;omega⟩)))
   .rcases LU.1 hx with hx|hx
    .exact(ce x hx).mono (Int.le_refl _) (by rw[hlen];simp;omega)
    .have:x=eA c.length:=by simpa using hx
     subst this;exact .inr (.inr (.inr (.inr (.inl ⟨rfl,rfl,by show (0:Int)<=(c.length:Int);omega,by show (c.length:Int)<=_;simp;omega⟩))))
theorem lg{l:List dQ}(hn:(l.map (·.name)).Nodup)(he:e∈l):dJ l e.name=some e:=by
 induction l with
 | nil=>simp at he
 | cons x l Z=>
  simp only[LQ,List.nodup_cons] at hn;unfold dJ at *;rcases L5.1 he with rfl|he
  .simp
  .rw[List.find?_cons_of_neg,Z hn.2 he];simp only[Ml];intro hx;exact hn.1 (by rw[hx];exact Mf.2 ⟨e,he,rfl⟩)
theorem n7{α:Type}(f:α->ByteArray)(k:Int):∀(l:List α) (i:Nat),(iH f k l i).map (·.name)=l.map f
 | [],_=>rfl
 | x::l,i=>by simp only[iH,LQ,n7 f k l (i+1)]
theorem iq{α:Type}(f:α->ByteArray)(k:Int):∀(l:List α) (i j:Nat) (x:α),l[j]?=some x->⟨f x,k,((i+j:Nat):Int)⟩∈iH f k l i
 | [],i,j,x,h=>by simp at h
 | y::l,i,0,x,h=>by
  simp only[List.getElem?_cons_zero,Mj] at h;subst h
  simp[iH]
 | y::l,i,j+1,x,h=>by
  simp only[List.getElem?_cons_succ] at h;have:=iq f k l (i+1) j x h;rw[show i+1+j=i+(j+1) by omega] at this;rw[iH];exact List.mem_cons_of_mem _ this
theorem fZ:∀(ps:List (ByteArray×Bool)) (i k:Int),(dY ps i k).map (·.name)=ps.map (·.1)
 | [],_,_=>rfl
 | (s,true)::l,i,k=>by simp only[dY,LQ,fZ l]
 | (s,false)::l,i,k=>by simp only[dY,LQ,fZ l]
theorem gW(s:ByteArray)(b:Bool)(ps:List (ByteArray×Bool)):cj ((s,b)::ps)=cj ps+(if b then 0 else 1)/\bV ((s,b)::ps)=bV ps+(if b then 1 else 0):=by
 cases b<;>simp[cj,bV]
theorem iM(ps:List (ByteArray×Bool)):0<=cj ps/\0<=bV ps:=⟨Int.natCast_nonneg _,Int.natCast_nonneg _⟩
theorem nF:∀(ps:List (ByteArray×Bool)) (i k:Int) (s:ByteArray),(s,true)∈ps->∃e∈dY ps i k,e.name=s/\e.kind=5/\k<=e.n/\e.n<k+bV ps
 | [],_,_,s,h=>by simp at h
 | (x,b)::l,i,k,s,h0=>by
  have hc:=(gW x b l).2;have bt:=(iM l).2;rcases L5.1 h0 with h|h
  .injection h with ac ap;subst ac ap;rw[hc];exact⟨⟨s,5,k⟩,by simp[dY],rfl,rfl,Int.le_refl _,by simp;omega⟩
  .cases b with
   | true=>
    obtain⟨e,he,ac,ap,aV,bz⟩:=nF l i (k+1) s h;rw[hc]
    exact⟨e,by simp[dY,he],ac,ap,ad,by simp;omega⟩
   | false=>
    obtain⟨e,he,ac,ap,aV,bz⟩:=nF l (i+1) k s h;rw[hc];exact⟨e,by simp[dY,he],ac,ap,ad,by simp;omega⟩
theorem qs:∀(ps:List (ByteArray×Bool)) (i k:Int) (s:ByteArray),(s,false)∈ps->∃e∈dY ps i k,e.name=s/\e.kind=4/\i<=e.n/\e.n<i+cj ps
 | [],_,_,s,h=>by simp at h
 | (x,b)::l,i,k,s,h0=>by
  have hc:=(gW x b l).1;have bt:=(iM l).1;rcases L5.1 h0 with h|h
  .injection h with ac ap;subst ac ap;rw[hc];exact⟨⟨s,4,i⟩,by simp[dY],rfl,rfl,Int.le_refl _,by simp;omega⟩
  .cases b with
   | true=>
    obtain⟨e,he,ac,ap,aV,bz⟩:=qs l i (k+1) s h;rw[hc]
    exact⟨e,by simp[dY,he],ac,ap,ad,by simp;omega⟩
   | false=>
    obtain⟨e,he,ac,ap,aV,bz⟩:=qs l (i+1) k s h;rw[hc];exact⟨e,by simp[dY,he],ac,ap,ad,by simp;omega⟩
theorem gf(p:bQ):(bp p).map (·.name)=bk p:=by
 simp only[bp,bk,fC,LR,n7]
def bx(u:aA):hO:=⟨u.globals.length,u.af,u.procs.map λp=>(p.ints,p.an)⟩
structure qu(U:hO)(p:cM):Prop where
 ints:0<=p.ints/\p.ints<=p.locals/\p.locals<=200
 an:0<=p.an/\p.an<=100
 code:∃s,p.code=s++[nw]/\s.length<=200/\∀x∈s,ie U p.locals p.an s.length x
structure da(u:aA):Prop where
 procs:∀p∈u.procs,qu (bx u) p
 E1:u.procs.length<=16
 main:∃p,0<=u.main/\u.procs[u.main.toNat]?=some p/\p.ints=0/\p.an=0
 wP:u.af.length<=12
 eD:∀m∈u.af,0<=m.size/\m.size<=64
 oj:u.globals.length<=16
 globals:∀g∈u.globals,-9223372036854775807<=g/\g<=9223372036854775807
theorem oq(p:bQ):bx (gB p)=⟨p.globals.length,p.af,p.funcs.map λf=>(cj f.params,bV f.params)⟩:=by
 simp only[bx,gB,LO,List.map_map];rfl
theorem uP(hp:oJ p)(J:f∈p.funcs):
  Sc (bx (gB p)) (h7 p f) (bp p++dY f.params 0 0) (fC p++cz f.params) (bk p++f.params.map (·.1)) (cj f.params) (bV f.params):=by
 have hF:=hp.funcs f J;have aW:((bp p++dY f.params 0 0).map (·.name)).Nodup:=by
  rw[LR,gf,fZ];exact hF.fresh
 have a9:=λe (he:e∈bp p++dY f.params 0 0)=>lg aW he;rw[oq];constructor
 .intro s hs;rcases LU.1 hs with hs|hs
  .obtain⟨g,aR,rfl⟩:=Mf.1 hs;obtain⟨i,aX⟩:=List.getElem?_of_mem aR;have:=a9 _ (LU.2 (.inl (by unfold bp;exact LU.2 (.inl (LU.2 (.inl (iq (·.1) 1 p.globals 0 i g aX)))))));refine⟨_,this,.inl ⟨rfl,by show (0:Int)<=((0+i:Nat):Int);omega,?_⟩⟩;have:=(List.getElem?_eq_some_iff.1 aX).1;show ((0+i:Nat):Int)<(p.globals.length:Int)
   omega
  .obtain⟨⟨q,b⟩,bK,rfl⟩:=Mf.1 hs;obtain⟨ep,bs⟩:=List.mem_filter.1 bK;have O:b=false:=by simpa using bs
   subst O;obtain⟨e,he,ac,ap,aV,bz⟩:=qs f.params 0 0 q ep;have:=a9 e (LU.2 (.inr he));rw[ac] at this;exact⟨e,this,.inr ⟨ap,aV,ad⟩⟩
 .intro m hm;obtain⟨i,aX⟩:=List.getElem?_of_mem hm;have:=a9 _ (LU.2 (.inl (by unfold bp;exact LU.2 (.inl (LU.2 (.inr (iq (·.name) 2 p.af 0 i m aX)))))));refine⟨_,this,rfl,by show (0:Int)<=((0+i:Nat):Int);omega,?_⟩;show p.af[(((0+i:Nat):Int)).toNat]?=some m
  rw[Mc,L8];exact aX
 .intro s hs;obtain⟨e,he,ac,ap,aV,bz⟩:=nF f.params 0 0 s hs;have:=a9 e (LU.2 (.inr he));rw[ac] at this;exact⟨e,this,ap,aV,ad⟩
 .intro s ps hs;obtain⟨g,aR,bB⟩:=Mf.1 hs;injection bB with bj al;subst bj al;obtain⟨i,aX⟩:=List.getElem?_of_mem aR;have:=a9 _ (LU.2 (.inl (by unfold bp;exact LU.2 (.inr (iq (·.name) 3 p.funcs 0 i g aX)))));refine⟨_,this,rfl,by show (0:Int)<=((0+i:Nat):Int);omega,?_⟩;show (p.funcs.map λf=>(cj f.params,bV f.params))[(((0+i:Nat):Int)).toNat]?=_
  rw[Mc,L8,List.getElem?_map,aX];rfl
 .intro e he;have:e.name∈(bp p++dY f.params 0 0).map (·.name):=Mf.2 ⟨e,he,rfl⟩;rw[LR,gf,fZ] at this;exact this
 .exact(iM _).1
theorem js{α:Type}(g:α->Nat){l:List α}{x:α}(h:x∈l):g x<=(l.map g).sum:=by
 induction l with
 | nil=>simp at h
 | cons y l Z=>
  simp only[LQ,List.sum_cons];rcases L5.1 h with rfl|h
  .omega
  .have:=Z h;omega
theorem mO(ps:List (ByteArray×Bool)):cj ps<=ps.length/\bV ps<=ps.length:=by
 unfold cj bV;have ac:=List.length_filter_le (λq:ByteArray×Bool=>!q.2) ps;have ap:=List.length_filter_le (λq:ByteArray×Bool=>q.2) ps;omega
theorem Gs(hp:oJ p)(J:f∈p.funcs):qu (bx (gB p)) (eG p f):=by
 have hF:=hp.funcs f J;obtain⟨⟨s,hs,hl,aj⟩,hle,ak⟩:=dZ f.body 4 _ _ _ (cj f.params) [] hF.body (uP hp J);have K:f.body.num<=64:=L6 (js (λf:aL=>f.body.num) J) hp.ja;have I:=hF.ja;have hn:=mO f.params;have bt:=iM f.params;refine⟨⟨bt.1,hle,?_⟩,⟨bt.2,?_⟩,?_⟩
 .show (dN f.body (bp p++dY f.params 0 0) (cj f.params) []).2<=200
  omega
 .show bV f.params<=100
  omega
 .refine⟨(dN f.body (bp p++dY f.params 0 0) (cj f.params) []).1,rfl,?_,?_⟩
  .rw[hs];simp;omega
  .intro x hx;have g:x∈s:=by rw[hs] at hx;simpa using hx
   exact aj x g
theorem x7(hp:oJ p):da (gB p):=by
 refine⟨λq bK=>?_,?_,?_,hp.wP,λm hm=>⟨(hp.eD m hm).1,(hp.eD m hm).2.1⟩,?_,λg aR=>?_⟩
 .obtain⟨f,J,rfl⟩:=Mf.1 bK;exact Gs hp J
 .show (p.funcs.map (eG p)).length<=16
  rw[LO];exact hp.E0
 .obtain⟨i,f,aX,hn,bO⟩:=hp.main;have aW:((bp p).map (·.name)).Nodup:=by rw[gf];exact hp.nodup
  have he:=lg aW (show _∈bp p by unfold bp;exact LU.2 (.inr (iq (·.name) 3 p.funcs 0 i f aX)));have hm:(gB p).main=(i:Int):=by
   show jo (bp p) iL=(i:Int)
   simp only[hn,L8] at he;unfold jo;rw[show iL=⟨#[109,97,105,110]⟩ from rfl,he]
  refine⟨eG p f,by rw[hm];omega,?_,?_,?_⟩
  .rw[hm,Mc];show (p.funcs.map (eG p))[i]?=_
   rw[List.getElem?_map,aX];rfl
  .show cj f.params=0
   rw[bO];rfl
  .show bV f.params=0
   rw[bO];rfl
 .show (p.globals.map (·.2)).length<=16
  rw[LO];exact hp.oj
 .obtain⟨k,aj,rfl⟩:=Mf.1 aR;exact hp.inits k aj
end Go.Proofs.YtpkfopfkdgkfkaaGreat

/- Part 8 of the proof. No condition of its own. -/
import Derived.Test.YtglbpimocmhojaaGreatQ07
namespace Go.Proofs.YtglbpimocmhojaaGreat
open Go.RowKit Go.Proofs.Tryz
set_option maxRecDepth 1000000
set_option maxHeartbeats 25600000
set_option linter.unusedVariables false
variable{s:ByteArray}{f:aJ}{p:bK}
structure dL where
 name:ByteArray
 kind:Int
 n:Int
def dA(l:List dL)(s:ByteArray):Option dL:=l.find? λe=>decide (e.name=s)
def bJ(l:List dL):VE->VE
 | .num n=>.num n
 | .g1 s=>match dA l s with
  | some e=>if e.kind=1 then .iB e.n else .loc e.n
  | none=>.loc 0
 | .loc k=>.loc k
 | .iB k=>.iB k
 | .un op x=>.un op (bJ l x)
 | .bin op x y=>.bin op (bJ l x) (bJ l y)
def l6(l:List dL)(r:eO):bQ:=
 match dA l r.name with
 | some v=>⟨v.kind == 5,v.n,r.idx.map (bJ l)⟩
 | none=>⟨false,0,r.idx.map (bJ l)⟩
def jh(l:List dL)(s:ByteArray):Int:=match dA l s with
 | some v=>v.n
 | none=>0
def tD(l:List dL)(s:ByteArray):Int:=match dA l s with
 | some v=>v.kind
 | none=>0
def bS(l:List dL):List dn->List VE
 | []=>[]
 | .ex e::a1=>bJ l e::bS l a1
 | .mx _::a1=>bS l a1
def cB(l:List dL):List dn->List bQ
 | []=>[]
 | .ex _::a1=>cB l a1
 | .mx r::a1=>l6 l r::cB l a1
def j9:bQ:=⟨false,0,none⟩
def lj(t:Int)(g:Bool)(e:VE):az:=⟨1,t,g,some e,j9,[],[]⟩
def lr(g:Bool)(t:Int)(is:List VE)(ps:List bQ):az:=⟨if g then 3 else 2,t,false,none,j9,is,ps⟩
def pO(u:Bool)(p:bQ):az:=⟨if u then 5 else 4,0,false,none,p,[],[]⟩
def kk(e:VE)(t:Int):az:=⟨6,t,false,some e,j9,[],[]⟩
def ej(t:Int):az:=⟨7,t,false,none,j9,[],[]⟩
def ni:az:=⟨8,0,false,none,j9,[],[]⟩
def fX(c:List az)(b:Nat)(t:Int):List az:=c.modify b λx=>{x with target:=t}
def dH:an->List dL->Int->List az->List az×Int
 | .nil,_,n,c=>(c,n)
 | .set true s e rest,l,n,c=>dH rest (l++[⟨s,4,n⟩]) (n+1) (c++[lj n false (bJ l e)])
 | .set false s e rest,l,n,c=>dH rest l n (c++[lj (jh l s) (tD l s == 1) (bJ l e)])
 | .call g s a1 rest,l,n,c=>dH rest l n (c++[lr g (jh l s) (bS l a1) (cB l a1)])
 | .lock u r rest,l,n,c=>dH rest l n (c++[pO u (l6 l r)])
 | .ite e th el rest,l,n,c=>
  let p:=dH th l n (c++[kk (bJ l e) 0])
  let q:=if el.isNil then (fX p.1 c.length p.1.length,p.2) else
   let k:=dH el l p.2 (fX (p.1++[ej 0]) c.length (p.1.length+1:Nat))
   (fX k.1 p.1.length k.1.length,k.2)
  dH rest l q.2 q.1
 | .gv e th rest,l,n,c=>
  let p:=dH th l n (c++[kk (bJ l e) 0])
  dH rest l p.2 (fX (p.1++[ej c.length]) c.length (p.1.length+1:Nat))
 | .ret rest,l,n,c=>dH rest l n (c++[ni])
def iA{α:Type}(f:α->ByteArray)(k:Int):List α->Nat->List dL
 | [],_=>[]
 | x::l,i=>⟨f x,k,i⟩::iA f k l (i+1)
def bo(p:bK):List dL:=iA (·.1) 1 p.globals 0++iA (·.name) 2 p.af 0++iA (·.name) 3 p.funcs 0
def dQ:List (ByteArray×Bool)->Int->Int->List dL
 | [],_,_=>[]
 | (s,true)::l,i,k=>⟨s,5,k⟩::dQ l i (k+1)
 | (s,false)::l,i,k=>⟨s,4,i⟩::dQ l (i+1) k
def cd(ps:List (ByteArray×Bool)):Int:=((ps.filter λq=>!q.2).length:Nat)
def bR(ps:List (ByteArray×Bool)):Int:=((ps.filter λq=>q.2).length:Nat)
def et(p:bK)(f:aJ):cH:=
 let q:=dH f.body (bo p++dQ f.params 0 0) (cd f.params) []
 ⟨f.name,cd f.params,bR f.params,q.2,q.1++[ni]⟩
def iF:ByteArray:=⟨#[109,97,105,110]⟩
def gj(p:bK):ay:=⟨p.globals.map (·.2),p.af,p.funcs.map (et p),jh (bo p) iF⟩
def VE.lit:VE->Prop
 | .num n=>0<=n/\n<=9223372036854775807
 | .un _ x=>x.lit
 | .bin _ x y=>x.lit/\y.lit
 | _=>True
structure ho where
 ng:Nat
 af:List bG
 sig:List (Int×Int)
def gf(U:ho)(nl:Int)(e:VE):Prop:=e.ok U.ng nl.toNat/\e.lit
def cU(U:ho)(nl nk:Int)(p:bQ):Prop:=
 (p.param=true/\0<=p.index/\p.index<nk/\p.at_=none)\/
 (p.param=false/\∃m,0<=p.index/\U.af[p.index.toNat]?=some m/\(0<m.size->∃e,p.at_=some e/\gf U nl e)/\(¬0<m.size->p.at_=none))
def h1(U:ho)(nl nk:Int)(len:Nat)(x:az):Prop:=
 (x.op=1/\(∃e,x.expr=some e/\gf U nl e)/\0<=x.target/\(x.dg=true->x.target<U.ng)/\(x.dg=false->x.target<nl))\/
 ((x.op=2\/x.op=3)/\x.dg=false/\∃s,0<=x.target/\U.sig[x.target.toNat]?=some s/\(x.ints.length:Int)=s.1/\(x.places.length:Int)=s.2/\(∀e∈x.ints,gf U nl e)/\∀p∈x.places,cU U nl nk p)\/
 ((x.op=4\/x.op=5)/\x.dg=false/\cU U nl nk x.place)\/
 (x.op=6/\x.dg=false/\(∃e,x.expr=some e/\gf U nl e)/\0<=x.target/\x.target<=len)\/
 (x.op=7/\x.dg=false/\0<=x.target/\x.target<=len)\/
 (x.op=8/\x.dg=false)
structure Sc(U:ho)(G:Env)(l:List dL)(V T:Lq)(n nk:Int):Prop where
 vars:∀s∈V,∃e,dA l s=some e/\((e.kind=1/\0<=e.n/\e.n<U.ng)\/(e.kind=4/\0<=e.n/\e.n<n))
 Ix:∀m∈G.af,∃e,dA l m.name=some e/\e.kind=2/\0<=e.n/\U.af[e.n.toNat]?=some m
 DZ:∀s,(s,true)∈G.params->∃e,dA l s=some e/\e.kind=5/\0<=e.n/\e.n<nk
 fns:∀s ps,(s,ps)∈G.funcs->∃e,dA l s=some e/\e.kind=3/\0<=e.n/\U.sig[e.n.toNat]?=some (cd ps,bR ps)
 taken:∀e∈l,e.name∈T
 n0:0<=n
variable{e:dL}
theorem jz{l:List dL}{x:dL}(h:dA l s=some e):dA (l++[x]) s=some e:=by
 unfold dA at *;rw[List.find?_append,h];rfl
theorem yc{l:List dL}{T:Lq}(ht:∀e∈l,e.name∈T)(hs:s∉T)(k n:Int):dA (l++[⟨s,k,n⟩]) s=some ⟨s,k,n⟩:=by
 unfold dA;rw[List.find?_append,List.find?_eq_none.2 (λe he=>by
  simp only[Li];rintro rfl;exact hs (ht e he))]
 simp
section
variable {U:ho} {G:Env} {l:List dL} {V T:Lq} {n aP nk:Int}
theorem Sc.mono(h:Sc U G l V T n nk)(hn:n<=aP):Sc U G l V T aP nk:=
 ⟨λs hs=>by obtain⟨e,he,ap⟩:=h.vars s hs;exact⟨e,he,ap.imp id λ⟨a,b,c⟩=>⟨a,b,ad⟩⟩,h.Ix,h.DZ,h.fns,h.taken,by have:=h.n0;omega⟩
theorem Sc.add(h:Sc U G l V T n nk)(hs:s∉T):Sc U G (l++[⟨s,4,n⟩]) (V++[s]) (T++[s]) (n+1) nk where
 vars:=λx hx=>by
  rcases KM.1 hx with hx|hx
  .obtain⟨e,he,ap⟩:=h.vars x hx;exact⟨e,jz he,ap.imp id λ⟨a,b,c⟩=>⟨a,b,ad⟩⟩
  .have:x=s:=by simpa using hx
   subst this;exact⟨_,yc h.taken hs 4 n,.inr ⟨rfl,h.n0,by show n<n+1;omega⟩⟩
 Ix:=λm hm=>by obtain⟨e,he,r⟩:=h.Ix m hm;exact⟨e,jz he,r⟩
 DZ:=λx hx=>by obtain⟨e,he,r⟩:=h.DZ x hx;exact⟨e,jz he,r⟩
 fns:=λx ps hx=>by obtain⟨e,he,r⟩:=h.fns x ps hx;exact⟨e,jz he,r⟩
 taken:=λe he=>by
  rcases KM.1 he with he|he
  .exact KM.2 (.inl (h.taken e he))
  .have:e=⟨s,4,n⟩:=by simpa using he
   subst this;simp
 n0:=by have:=h.n0;omega
end
theorem oL{ng nl a:Nat}(h:nl<=a):∀x:VE,x.ok ng nl->x.ok ng a
 | .num _,_=>trivial
 | .g1 _,F=>F.elim
 | .loc k,F=>⟨F.1,by have:=F.2;omega⟩
 | .iB k,F=>F
 | .un _ x,F=>⟨F.1,oL h x F.2⟩
 | .bin _ x y,F=>⟨F.1,oL h x F.2.1,oL h y F.2.2⟩
theorem gf.mono{U:ho}{n aP:Int}{e:VE}(h:gf U n e)(hn:n<=aP):gf U aP e:=⟨oL (nl:=n.toNat) (a:=aP.toNat) ad e h.1,h.2⟩
theorem cU.mono{U:ho}{n aP nk:Int}{p:bQ}(h:cU U n nk p)(hn:n<=aP):cU U aP nk p:=
 h.imp id λ⟨a,m,b,c,d,e⟩=>⟨a,m,b,c,λhs=>by obtain⟨x,hx,ap⟩:=d hs;exact⟨x,hx,ap.mono hn⟩,e⟩
theorem h1.mono{U:ho}{n aP nk:Int}{k F:Nat}{x:az}(h:h1 U n nk k x)(hn:n<=aP)(ap:k<=F):h1 U aP nk F x:=by
 rcases h with⟨ac,⟨e,he,bn⟩,au,aU,bE⟩|⟨ac,a2,s,au,aU,bE,cF,aY,j⟩|⟨ac,a2,au⟩|⟨ac,a2,⟨e,he,bn⟩,au,aU⟩|⟨ac,a2,au,aU⟩|h
 .exact .inl ⟨ac,⟨e,he,bn.mono hn⟩,au,aU,λh=>by have:=bE h;omega⟩
 .exact .inr (.inl ⟨ac,a2,s,au,aU,bE,cF,λe he=>(aY e he).mono hn,λp hp=>(j p hp).mono hn⟩)
 .exact .inr (.inr (.inl ⟨ac,a2,au.mono hn⟩))
 .exact .inr (.inr (.inr (.inl ⟨ac,a2,⟨e,he,bn.mono hn⟩,au,ad⟩)))
 .exact .inr (.inr (.inr (.inr (.inl ⟨ac,a2,au,ad⟩))))
 .exact .inr (.inr (.inr (.inr (.inr h))))
section
variable {U:ho} {G:Env} {l:List dL} {V T:Lq} {n nk:Int} (hS:Sc U G l V T n nk)
include hS
theorem h4:∀(d:Nat) (x:VE),x.src V d->gf U n (bJ l x)
 | d,.num k,h=>by
  have F:0<=k/\k<4611686018427387904:=by cases d<;>exact h
  exact⟨trivial,by show 0<=k/\k<=9223372036854775807;omega⟩
 | d,.g1 s,h=>by
  have F:s∈V:=by cases d<;>exact h
  obtain⟨e,he,ap⟩:=hS.vars s F;have hn:=hS.n0;unfold bJ;simp only[he];rcases ap with⟨ac,au,aU⟩|⟨ac,au,aU⟩
  .rw[if_pos ac];exact⟨⟨au,aU⟩,trivial⟩
  .rw[if_neg ad]
   exact⟨⟨au,ad⟩,trivial⟩
 | d,.loc _,h=>by cases d<;>exact h.elim
 | d,.iB _,h=>by cases d<;>exact h.elim
 | 0,.un _ _,h=>h.elim
 | 0,.bin _ _ _,h=>h.elim
 | d+1,.un op x,h=>by
  have ao:=h4 d x h.2
  exact⟨⟨h.1,ao.1⟩,ao.2⟩
 | d+1,.bin op x y,h=>by
  have i:=h4 d x h.2.1;have c:=h4 d y h.2.2;exact⟨⟨h.1,i.1,c.1⟩,i.2,c.2⟩
theorem xK(r:eO)(h:rT G V r):cU U n nk (l6 l r):=by
 unfold l6;rcases h with⟨m,hm,hn,ac,au⟩|⟨hp,an⟩
 .obtain⟨e,he,ap,h0,hu⟩:=hS.Ix m hm;rw[<-hn];simp only[he];refine .inr ⟨by simp[ap],m,h0,hu,λhs=>?_,λhs=>by simp[au hs]⟩;obtain⟨x,hx,ay⟩:=ac hs;exact⟨bJ l x,by simp[hx],h4 hS 2 x ay⟩
 .obtain⟨e,he,ap,h0,ak⟩:=hS.DZ _ hp;simp only[he];exact .inl ⟨by simp[ap],h0,ak,by simp[an]⟩
theorem su:∀(ps:List (ByteArray×Bool)) (a1:List dn),iM G V ps a1->
  ((bS l a1).length:Int)=cd ps/\((cB l a1).length:Int)=bR ps/\(∀e∈bS l a1,gf U n e)/\∀p∈cB l a1,cU U n nk p
 | [],[],_=>⟨rfl,rfl,λe h=>by simp[bS] at h,λe h=>by simp[cB] at h⟩
 | (s,b)::ps,.mx r::a1,h=>by
  obtain⟨ac,au,aU,bE⟩:=su ps a1 h.2;have O:b=true:=h.1.1;subst O;refine⟨?_,?_,aU,?_⟩
  .simpa[bS,cd] using ac
  .simp only[cB,KQ,bR] at au ⊢;simp;omega
  .intro p hp;simp only[cB,KT] at hp;rcases hp with rfl|hp
   .exact xK hS r h.1.2
   .exact bE p hp
 | (s,b)::ps,.ex e::a1,h=>by
  obtain⟨ac,au,aU,bE⟩:=su ps a1 h.2;have O:b=false:=h.1.1;subst O;refine⟨?_,?_,?_,bE⟩
  .simp only[bS,KQ,cd] at ac ⊢;simp;omega
  .simpa[cB,bR] using au
  .intro p hp;simp only[bS,KT] at hp;rcases hp with rfl|hp
   .exact h4 hS 2 e h.1.2
   .exact aU p hp
 | [],_::_,h=>h.elim
 | _::_,[],h=>h.elim
end
theorem oR(a:List az)(x:az)(b:List az)(t:Int):fX (a++x::b) a.length t=a++{x with target:=t}::b:=by
 unfold fX
 induction a with
 | nil=>rfl
 | cons y a ao=>simp only[KS,KQ,List.modify_succ_cons,ao]
structure yL(U:ho)(nk n:Int)(c:List az)(num:Nat)(r:List az×Int):Prop where
 ex:∃s,r.1=c++s/\s.length<=2*num/\∀x∈s,h1 U r.2 nk r.1.length x
 le:n<=r.2
 ge:r.2<=n+num
theorem yL.step{U:ho}{nk n aP:Int}{c m:List az}{k num:Nat}{r:List az×Int}(hm:m.length<=2*k)(bY:∀x∈m,h1 U aP nk (c++m).length x)(hn:n<=aP)(cG:aP<=n+k)(h:yL U nk aP (c++m) num r):yL U nk n c (num+k) r:=by
 obtain⟨⟨s,hs,hl,ap⟩,hle,aj⟩:=h;refine⟨⟨m++s,by rw[hs,KR],by simp;omega,λx hx=>?_⟩,ad,ad⟩;rcases KM.1 hx with hx|hx
 .exact(bY x hx).mono hle (by rw[hs];simp)
 .exact ap x hx
theorem dR{U:ho}{G:Env}{nk:Int}:∀(b:an) (d:Nat) (l:List dL) (V T:Lq) (n:Int) (c:List az),e4 G d V T b->Sc U G l V T n nk->yL U nk n c b.num (dH b l n c)
 | .nil,d,l,V,T,n,c,_,_=>⟨⟨[],by simp[dH],by simp,λx h=>by simp at h⟩,Int.le_refl _,by simp[dH,an.num]⟩
 | .set true s e rest,d,l,V,T,n,c,h,hS=>by
  have F:bD s.data.toList=true/\s∉T/\e.src V 2/\e4 G d (V++[s]) (T++[s]) rest:=by cases d<;>exact h
  have ao:=dR rest d _ _ _ (n+1) (c++[lj n false (bJ l e)]) F.2.2.2 (hS.add F.2.1);refine yL.step (m:=[lj n false (bJ l e)]) (k:=1) (by simp) (λx hx=>?_) ad ad ao;have:x=lj n false (bJ l e):=by simpa using hx
  subst this
  exact .inl ⟨rfl,⟨_,rfl,(h4 hS 2 e F.2.2.1).mono ad⟩,hS.n0,(λh=>by cases h),λ_=>by show n<n+1;omega⟩
 | .set false s e rest,d,l,V,T,n,c,h,hS=>by
  have F:s∈V/\e.src V 2/\e4 G d V T rest:=by cases d<;>exact h
  have ao:=dR rest d _ _ _ n (c++[lj (jh l s) (tD l s == 1) (bJ l e)]) F.2.2 hS;refine yL.step (m:=[lj (jh l s) (tD l s == 1) (bJ l e)]) (k:=1) (by simp) (λx hx=>?_) (Int.le_refl _) ad ao;have:x=lj (jh l s) (tD l s == 1) (bJ l e):=by simpa using hx
  subst this;obtain⟨v,bI,ap⟩:=hS.vars s F.1;have e1:jh l s=v.n:=by simp[jh,bI]
  have e2:tD l s=v.kind:=by simp[tD,bI]
  rw[e1,e2];refine .inl ⟨rfl,⟨_,rfl,h4 hS 2 e F.2.1⟩,?_,λa2=>?_,λa2=>?_⟩
  .show 0<=v.n;omega
  .have i:v.kind=1:=by simpa[lj] using a2
   show v.n<_
   omega
  .have i:¬v.kind=1:=by simpa[lj] using a2
   show v.n<n
   omega
 | .call g s a1 rest,d,l,V,T,n,c,h,hS=>by
  have F:(∃ps,(s,ps)∈G.funcs/\iM G V ps a1)/\e4 G d V T rest:=by cases d<;>exact h
  obtain⟨⟨ps,J,has⟩,a5⟩:=F;have ao:=dR rest d _ _ _ n (c++[lr g (jh l s) (bS l a1) (cB l a1)]) a5 hS;refine yL.step (m:=[lr g (jh l s) (bS l a1) (cB l a1)]) (k:=1) (by simp) (λx hx=>?_) (Int.le_refl _) ad ao;have:x=lr g (jh l s) (bS l a1) (cB l a1):=by simpa using hx
  subst this;obtain⟨v,bI,_,h0,hu⟩:=hS.fns s ps J;have e1:jh l s=v.n:=by simp[jh,bI]
  obtain⟨q,y,a3,a4⟩:=su hS ps a1 has;rw[e1]
  exact .inr (.inl ⟨by cases g<;>simp[lr],rfl,_,h0,hu,q,y,a3,a4⟩)
 | .lock u r rest,d,l,V,T,n,c,h,hS=>by
  have F:rT G V r/\e4 G d V T rest:=by cases d<;>exact h
  have ao:=dR rest d _ _ _ n (c++[pO u (l6 l r)]) F.2 hS;refine yL.step (m:=[pO u (l6 l r)]) (k:=1) (by simp) (λx hx=>?_) (Int.le_refl _) ad ao;have:x=pO u (l6 l r):=by simpa using hx
  subst this
  exact .inr (.inr (.inl ⟨by cases u<;>simp[pO],rfl,xK hS r F.1⟩))
 | .ret rest,d,l,V,T,n,c,h,hS=>by
  have F:e4 G d V T rest:=by cases d<;>exact h
  have ao:=dR rest d _ _ _ n (c++[ni]) F hS;refine yL.step (m:=[ni]) (k:=1) (by simp) (λx hx=>?_) (Int.le_refl _) ad ao;have:x=ni:=by simpa using hx
  subst this
  exact .inr (.inr (.inr (.inr (.inr ⟨rfl,rfl⟩))))
 | .ite e th el rest,0,l,V,T,n,c,h,hS=>h.elim
 | .gv e th rest,0,l,V,T,n,c,h,hS=>h.elim
 | .ite e th el rest,d+1,l,V,T,n,c,h,hS=>by
  have i1:=dR th d l V T n (c++[kk (bJ l e) 0]) h.2.1 hS;have aw:=h4 hS 2 e h.1;unfold dH;simp only[];generalize dH th l n (c++[kk (bJ l e) 0])=p at *;obtain⟨⟨s1,cp,hi,cb⟩,bd,dd⟩:=i1;obtain⟨be,n1⟩:=p;simp only[] at *;have o:be=c++kk (bJ l e) 0::s1:=by rw[cp];simp
  cases hn:el.isNil with
  | true=>
   simp only[if_true];have L:fX be c.length be.length=c++kk (bJ l e) be.length::s1:=by
    generalize (be.length:Int)=t;rw[o];exact oR c _ s1 t
   rw[L];have i3:=dR rest (d+1) l V T n1 (c++kk (bJ l e) be.length::s1) h.2.2.2 (hS.mono bd);have hlen:be.length=c.length+s1.length+1:=by rw[o];simp;omega
   have:=yL.step (k:=th.num+el.num+1) (n:=n) (m:=kk (bJ l e) be.length::s1) (by simp;omega) (λx hx=>?_) bd ad i3
   .rw[show (an.ite e th el rest).num=rest.num+(th.num+el.num+1) by simp only[an.num];omega];exact this
   .rcases KT.1 hx with rfl|hx
    .exact .inr (.inr (.inr (.inl ⟨rfl,rfl,⟨_,rfl,aw.mono bd⟩,by show (0:Int)<=(be.length:Int);omega,by show (be.length:Int)<=_;rw[hlen];simp;omega⟩)))
    .exact(cb x hx).mono (Int.le_refl _) (by rw[hlen];simp;omega)
  | false=>
   simp only[Lj,if_false];have L:fX (be++[ej 0]) c.length (be.length+1:Nat)=c++kk (bJ l e) (be.length+1:Nat)::(s1++[ej 0]):=by
    generalize ((be.length+1:Nat):Int)=t;rw[o,KR,KS];exact oR c _ _ t
   have hlen:be.length=c.length+s1.length+1:=by rw[o];simp;omega
   rw[L];have i2:=dR el d l V T n1 (c++kk (bJ l e) (be.length+1:Nat)::(s1++[ej 0])) h.2.2.1 (hS.mono bd);generalize dH el l n1 (c++kk (bJ l e) (be.length+1:Nat)::(s1++[ej 0]))=k at *;obtain⟨⟨s2,bN,cg,cN⟩,fy,fx⟩:=i2;obtain⟨cv,n2⟩:=k;simp only[] at *;have f:cv=(c++kk (bJ l e) (be.length+1:Nat)::s1)++ej 0::s2:=by rw[bN];simp
   have j:fX cv be.length cv.length=(c++kk (bJ l e) (be.length+1:Nat)::s1)++ej cv.length::s2:=by
    have bk:be.length=(c++kk (bJ l e) (be.length+1:Nat)::s1).length:=by rw[hlen];simp;omega
    generalize (cv.length:Int)=t;rw[f,congrArg (fX _) bk];exact oR _ _ s2 t
   have a:cv.length=c.length+s1.length+s2.length+2:=by rw[f];simp;omega
   rw[j,KR,KS];have i3:=dR rest (d+1) l V T n2 (c++kk (bJ l e) (be.length+1:Nat)::(s1++ej cv.length::s2)) h.2.2.2 (hS.mono ad);have:=yL.step (k:=th.num+el.num+1) (n:=n) (m:=kk (bJ l e) (be.length+1:Nat)::(s1++ej cv.length::s2)) (by simp;omega) (λx hx=>?_) ad ad i3
   .rw[show (an.ite e th el rest).num=rest.num+(th.num+el.num+1) by simp only[an.num];omega];exact this
   .rcases KT.1 hx with rfl|hx
    .exact .inr (.inr (.inr (.inl ⟨rfl,rfl,⟨_,rfl,aw.mono ad⟩,by show (0:Int)<=((be.length+1:Nat):Int);omega,by show ((be.length+1:Nat):Int)<=_;rw[hlen];simp;omega⟩)))
    .rcases KM.1 hx with hx|hx
     .exact(cb x hx).mono ad (by rw[hlen];simp;omega)
     .rcases KT.1 hx with rfl|hx
      .exact .inr (.inr (.inr (.inr (.inl ⟨rfl,rfl,by show (0:Int)<=(cv.length:Int);omega,by show (cv.length:Int)<=_;rw[a];simp;omega⟩))))
      .exact(cN x hx).mono (Int.le_refl _) (by rw[a];simp;omega)
 | .gv e th rest,d+1,l,V,T,n,c,h,hS=>by
  have i1:=dR th d l V T n (c++[kk (bJ l e) 0]) h.2.1 hS;have aw:=h4 hS 2 e h.1;unfold dH;simp only[];generalize dH th l n (c++[kk (bJ l e) 0])=p at *;obtain⟨⟨s1,cp,hi,cb⟩,bd,dd⟩:=i1;obtain⟨be,n1⟩:=p;simp only[] at *;have o:be=c++kk (bJ l e) 0::s1:=by rw[cp];simp
  have hlen:be.length=c.length+s1.length+1:=by rw[o];simp;omega
  have L:fX (be++[ej c.length]) c.length (be.length+1:Nat)=c++kk (bJ l e) (be.length+1:Nat)::(s1++[ej c.length]):=by
   generalize ((be.length+1:Nat):Int)=t;rw[o,KR,KS];exact oR c _ _ t
  rw[L];have i3:=dR rest (d+1) l V T n1 (c++kk (bJ l e) (be.length+1:Nat)::(s1++[ej c.length])) h.2.2 (hS.mono bd);have:=yL.step (k:=th.num+1) (n:=n) (m:=kk (bJ l e) (be.length+1:Nat)::(s1++[ej c.length])) (by simp;omega) (λx hx=>?_) bd ad i3
  .rw[show (an.gv e th rest).num=rest.num+(th.num+1) by simp only[an.num];omega];exact this
  .rcases KT.1 hx with rfl|hx
   .exact .inr (.inr (.inr (.inl ⟨rfl,rfl,⟨_,rfl,aw.mono bd⟩,by show (0:Int)<=((be.length+1:Nat):Int);omega,by show ((be.length+1:Nat):Int)<=_;rw[hlen];simp;omega⟩)))
   .rcases KM.1 hx with hx|hx
    .exact(cb x hx).mono (Int.le_refl _) (by rw[hlen];simp;omega)
    .have:x=ej c.length:=by simpa using hx
     subst this;exact .inr (.inr (.inr (.inr (.inl ⟨rfl,rfl,by show (0:Int)<=(c.length:Int);omega,by show (c.length:Int)<=_;simp;omega⟩))))
theorem kY{l:List dL}(hn:(l.map (·.name)).Nodup)(he:e∈l):dA l e.name=some e:=by
 induction l with
 | nil=>simp at he
 | cons x l ao=>
  simp only[KJ,List.nodup_cons] at hn;unfold dA at *;rcases KT.1 he with rfl|he
  .simp
  .rw[List.find?_cons_of_neg,ao hn.2 he];simp only[Li];intro hx;exact hn.1 (by rw[hx];exact Lc.2 ⟨e,he,rfl⟩)
theorem nP{α:Type}(f:α->ByteArray)(k:Int):∀(l:List α) (i:Nat),(iA f k l i).map (·.name)=l.map f
 | [],_=>rfl
 | x::l,i=>by simp only[iA,KJ,nP f k l (i+1)]
theorem h7{α:Type}(f:α->ByteArray)(k:Int):∀(l:List α) (i j:Nat) (x:α),l[j]?=some x->⟨f x,k,((i+j:Nat):Int)⟩∈iA f k l i
 | [],i,j,x,h=>by simp at h
 | y::l,i,0,x,h=>by
  simp only[List.getElem?_cons_zero,Lg] at h;subst h
  simp[iA]
 | y::l,i,j+1,x,h=>by
  simp only[List.getElem?_cons_succ] at h;have:=h7 f k l (i+1) j x h;rw[show i+1+j=i+(j+1) by omega] at this;rw[iA];exact List.mem_cons_of_mem _ this
theorem fM:∀(ps:List (ByteArray×Bool)) (i k:Int),(dQ ps i k).map (·.name)=ps.map (·.1)
 | [],_,_=>rfl
 | (s,true)::l,i,k=>by simp only[dQ,KJ,fM l]
 | (s,false)::l,i,k=>by simp only[dQ,KJ,fM l]
theorem gL(s:ByteArray)(b:Bool)(ps:List (ByteArray×Bool)):cd ((s,b)::ps)=cd ps+(if b then 0 else 1)/\bR ((s,b)::ps)=bR ps+(if b then 1 else 0):=by
 cases b<;>simp[cd,bR]
theorem iG(ps:List (ByteArray×Bool)):0<=cd ps/\0<=bR ps:=⟨Int.natCast_nonneg _,Int.natCast_nonneg _⟩
theorem nt:∀(ps:List (ByteArray×Bool)) (i k:Int) (s:ByteArray),(s,true)∈ps->∃e∈dQ ps i k,e.name=s/\e.kind=5/\k<=e.n/\e.n<k+bR ps
 | [],_,_,s,h=>by simp at h
 | (x,b)::l,i,k,s,h0=>by
  have hc:=(gL x b l).2;have b6:=(iG l).2;rcases KT.1 h0 with h|h
  .injection h with ac au;subst ac au;rw[hc];exact⟨⟨s,5,k⟩,by simp[dQ],rfl,rfl,Int.le_refl _,by simp;omega⟩
  .cases b with
   | true=>
    obtain⟨e,he,ac,au,aU,bE⟩:=nt l i (k+1) s h;rw[hc]
    exact⟨e,by simp[dQ,he],ac,au,ad,by simp;omega⟩
   | false=>
    obtain⟨e,he,ac,au,aU,bE⟩:=nt l (i+1) k s h;rw[hc];exact⟨e,by simp[dQ,he],ac,au,ad,by simp;omega⟩
theorem qf:∀(ps:List (ByteArray×Bool)) (i k:Int) (s:ByteArray),(s,false)∈ps->∃e∈dQ ps i k,e.name=s/\e.kind=4/\i<=e.n/\e.n<i+cd ps
 | [],_,_,s,h=>by simp at h
 | (x,b)::l,i,k,s,h0=>by
  have hc:=(gL x b l).1;have b6:=(iG l).1;rcases KT.1 h0 with h|h
  .injection h with ac au;subst ac au;rw[hc];exact⟨⟨s,4,i⟩,by simp[dQ],rfl,rfl,Int.le_refl _,by simp;omega⟩
  .cases b with
   | true=>
    obtain⟨e,he,ac,au,aU,bE⟩:=qf l i (k+1) s h;rw[hc]
    exact⟨e,by simp[dQ,he],ac,au,ad,by simp;omega⟩
   | false=>
    obtain⟨e,he,ac,au,aU,bE⟩:=qf l (i+1) k s h;rw[hc];exact⟨e,by simp[dQ,he],ac,au,ad,by simp;omega⟩
theorem fP(p:bK):(bo p).map (·.name)=bh p:=by
 simp only[bo,bh,fo,KK,nP]
def bx(u:ay):ho:=⟨u.globals.length,u.af,u.procs.map λp=>(p.ints,p.au)⟩
structure qh(U:ho)(p:cH):Prop where
 ints:0<=p.ints/\p.ints<=p.locals/\p.locals<=200
 au:0<=p.au/\p.au<=100
 code:∃s,p.code=s++[ni]/\s.length<=200/\∀x∈s,h1 U p.locals p.au s.length x
structure cZ(u:ay):Prop where
 procs:∀p∈u.procs,qh (bx u) p
 DT:u.procs.length<=16
 main:∃p,0<=u.main/\u.procs[u.main.toNat]?=some p/\p.ints=0/\p.au=0
 v8:u.af.length<=12
 fx:∀m∈u.af,0<=m.size/\m.size<=64
 nY:u.globals.length<=16
 globals:∀g∈u.globals,-9223372036854775807<=g/\g<=9223372036854775807
theorem n8(p:bK):bx (gj p)=⟨p.globals.length,p.af,p.funcs.map λf=>(cd f.params,bR f.params)⟩:=by
 simp only[bx,gj,KH,List.map_map];rfl
theorem uw(hp:ot p)(J:f∈p.funcs):
  Sc (bx (gj p)) (hR p f) (bo p++dQ f.params 0 0) (fo p++cr f.params) (bh p++f.params.map (·.1)) (cd f.params) (bR f.params):=by
 have hF:=hp.funcs f J;have bu:((bo p++dQ f.params 0 0).map (·.name)).Nodup:=by
  rw[KK,fP,fM];exact hF.fresh
 have a6:=λe (he:e∈bo p++dQ f.params 0 0)=>kY bu he;rw[n8];constructor
 .intro s hs;rcases KM.1 hs with hs|hs
  .obtain⟨g,a2,rfl⟩:=Lc.1 hs;obtain⟨i,an⟩:=List.getElem?_of_mem a2;have:=a6 _ (KM.2 (.inl (by unfold bo;exact KM.2 (.inl (KM.2 (.inl (h7 (·.1) 1 p.globals 0 i g an)))))));refine⟨_,this,.inl ⟨rfl,by show (0:Int)<=((0+i:Nat):Int);omega,?_⟩⟩;have:=(List.getElem?_eq_some_iff.1 an).1;show ((0+i:Nat):Int)<(p.globals.length:Int)
   omega
  .obtain⟨⟨q,b⟩,bv,rfl⟩:=Lc.1 hs;obtain⟨ep,bs⟩:=List.mem_filter.1 bv;have O:b=false:=by simpa using bs
   subst O;obtain⟨e,he,ac,au,aU,bE⟩:=qf f.params 0 0 q ep;have:=a6 e (KM.2 (.inr he));rw[ac] at this;exact⟨e,this,.inr ⟨au,aU,ad⟩⟩
 .intro m hm;obtain⟨i,an⟩:=List.getElem?_of_mem hm;have:=a6 _ (KM.2 (.inl (by unfold bo;exact KM.2 (.inl (KM.2 (.inr (h7 (·.name) 2 p.af 0 i m an)))))));refine⟨_,this,rfl,by show (0:Int)<=((0+i:Nat):Int);omega,?_⟩;show p.af[(((0+i:Nat):Int)).toNat]?=some m
  rw[KY,KV];exact an
 .intro s hs;obtain⟨e,he,ac,au,aU,bE⟩:=nt f.params 0 0 s hs;have:=a6 e (KM.2 (.inr he));rw[ac] at this;exact⟨e,this,au,aU,ad⟩
 .intro s ps hs;obtain⟨g,a2,co⟩:=Lc.1 hs;injection co with a7 bF;subst a7 bF;obtain⟨i,an⟩:=List.getElem?_of_mem a2;have:=a6 _ (KM.2 (.inl (by unfold bo;exact KM.2 (.inr (h7 (·.name) 3 p.funcs 0 i g an)))));refine⟨_,this,rfl,by show (0:Int)<=((0+i:Nat):Int);omega,?_⟩;show (p.funcs.map λf=>(cd f.params,bR f.params))[(((0+i:Nat):Int)).toNat]?=_
  rw[KY,KV,List.getElem?_map,an];rfl
 .intro e he;have:e.name∈(bo p++dQ f.params 0 0).map (·.name):=Lc.2 ⟨e,he,rfl⟩;rw[KK,fP,fM] at this;exact this
 .exact(iG _).1
theorem jj{α:Type}(g:α->Nat){l:List α}{x:α}(h:x∈l):g x<=(l.map g).sum:=by
 induction l with
 | nil=>simp at h
 | cons y l ao=>
  simp only[KJ,List.sum_cons];rcases KT.1 h with rfl|h
  .omega
  .have:=ao h;omega
theorem mF(ps:List (ByteArray×Bool)):cd ps<=ps.length/\bR ps<=ps.length:=by
 unfold cd bR;have ac:=List.length_filter_le (λq:ByteArray×Bool=>!q.2) ps;have au:=List.length_filter_le (λq:ByteArray×Bool=>q.2) ps;omega
theorem Fc(hp:ot p)(J:f∈p.funcs):qh (bx (gj p)) (et p f):=by
 have hF:=hp.funcs f J;obtain⟨⟨s,hs,hl,ap⟩,hle,aj⟩:=dR f.body 4 _ _ _ (cd f.params) [] hF.body (uw hp J);have K:f.body.num<=64:=KU (jj (λf:aJ=>f.body.num) J) hp.jy;have L:=hF.jy;have hn:=mF f.params;have b6:=iG f.params;refine⟨⟨b6.1,hle,?_⟩,⟨b6.2,?_⟩,?_⟩
 .show (dH f.body (bo p++dQ f.params 0 0) (cd f.params) []).2<=200
  omega
 .show bR f.params<=100
  omega
 .refine⟨(dH f.body (bo p++dQ f.params 0 0) (cd f.params) []).1,rfl,?_,?_⟩
  .rw[hs];simp;omega
  .intro x hx;have g:x∈s:=by rw[hs] at hx;simpa using hx
   exact ap x g
theorem xz(hp:ot p):cZ (gj p):=by
 refine⟨λq bv=>?_,?_,?_,hp.v8,λm hm=>⟨(hp.fx m hm).1,(hp.fx m hm).2.1⟩,?_,λg a2=>?_⟩
 .obtain⟨f,J,rfl⟩:=Lc.1 bv;exact Fc hp J
 .show (p.funcs.map (et p)).length<=16
  rw[KH];exact hp.DS
 .obtain⟨i,f,an,hn,cl⟩:=hp.main;have bu:((bo p).map (·.name)).Nodup:=by rw[fP];exact hp.nodup
  have he:=kY bu (show _∈bo p by unfold bo;exact KM.2 (.inr (h7 (·.name) 3 p.funcs 0 i f an)));have hm:(gj p).main=(i:Int):=by
   show jh (bo p) iF=(i:Int)
   simp only[hn,KV] at he;unfold jh;rw[show iF=⟨#[109,97,105,110]⟩ from rfl,he]
  refine⟨et p f,by rw[hm];omega,?_,?_,?_⟩
  .rw[hm,KY];show (p.funcs.map (et p))[i]?=_
   rw[List.getElem?_map,an];rfl
  .show cd f.params=0
   rw[cl];rfl
  .show bR f.params=0
   rw[cl];rfl
 .show (p.globals.map (·.2)).length<=16
  rw[KH];exact hp.nY
 .obtain⟨k,ap,rfl⟩:=Lc.1 a2;exact hp.inits k ap
end Go.Proofs.YtglbpimocmhojaaGreat

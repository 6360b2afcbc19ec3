/- Part 8 of the proof. No condition of its own. -/
import Derived.Test.YtnigabjngpnbiaaGreatQ07
namespace Go.Proofs.YtnigabjngpnbiaaGreat
open Go.RowKit Go.Proofs.Tryz
set_option maxRecDepth 1000000
set_option maxHeartbeats 25600000
set_option linter.unusedVariables false
variable{s:ByteArray}{f:a1}{p:bC}
structure dv where
 name:ByteArray
 kind:Int
 n:Int
def dg(l:List dv)(s:ByteArray):Option dv:=l.find? λe=>decide (e.name=s)
def bG(l:List dv):VE->VE
 | .num n=>.num n
 | .eP s=>match dg l s with
  | some e=>if e.kind=1 then .hP e.n else .loc e.n
  | none=>.loc 0
 | .loc k=>.loc k
 | .hP k=>.hP k
 | .un op x=>.un op (bG l x)
 | .bin op x y=>.bin op (bG l x) (bG l y)
def la(l:List dv)(r:eR):bN:=
 match dg l r.name with
 | some v=>⟨v.kind == 5,v.n,r.idx.map (bG l)⟩
 | none=>⟨false,0,r.idx.map (bG l)⟩
def ix(l:List dv)(s:ByteArray):Int:=match dg l s with
 | some v=>v.n
 | none=>0
def sc(l:List dv)(s:ByteArray):Int:=match dg l s with
 | some v=>v.kind
 | none=>0
def bL(l:List dv):List dh->List VE
 | []=>[]
 | .ex e::aH=>bG l e::bL l aH
 | .mx _::aH=>bL l aH
def cr(l:List dv):List dh->List bN
 | []=>[]
 | .ex _::aH=>cr l aH
 | .mx r::aH=>la l r::cr l aH
def jB:bN:=⟨false,0,none⟩
def kG(t:Int)(g:Bool)(e:VE):ax:=⟨1,t,g,some e,jB,[],[]⟩
def kK(g:Bool)(t:Int)(is:List VE)(ps:List bN):ax:=⟨if g then 3 else 2,t,false,none,jB,is,ps⟩
def ou(u:Bool)(p:bN):ax:=⟨if u then 5 else 4,0,false,none,p,[],[]⟩
def jQ(e:VE)(t:Int):ax:=⟨6,t,false,some e,jB,[],[]⟩
def dL(t:Int):ax:=⟨7,t,false,none,jB,[],[]⟩
def m9:ax:=⟨8,0,false,none,jB,[],[]⟩
def fw(c:List ax)(b:Nat)(t:Int):List ax:=c.modify b λx=>{x with target:=t}
def ds:an->List dv->Int->List ax->List ax×Int
 | .nil,_,n,c=>(c,n)
 | .set true s e rest,l,n,c=>ds rest (l++[⟨s,4,n⟩]) (n+1) (c++[kG n false (bG l e)])
 | .set false s e rest,l,n,c=>ds rest l n (c++[kG (ix l s) (sc l s == 1) (bG l e)])
 | .call g s aH rest,l,n,c=>ds rest l n (c++[kK g (ix l s) (bL l aH) (cr l aH)])
 | .lock u r rest,l,n,c=>ds rest l n (c++[ou u (la l r)])
 | .ite e th el rest,l,n,c=>
  let p:=ds th l n (c++[jQ (bG l e) 0])
  let q:=if el.isNil then (fw p.1 c.length p.1.length,p.2) else
   let k:=ds el l p.2 (fw (p.1++[dL 0]) c.length (p.1.length+1:Nat))
   (fw k.1 p.1.length k.1.length,k.2)
  ds rest l q.2 q.1
 | .fL e th rest,l,n,c=>
  let p:=ds th l n (c++[jQ (bG l e) 0])
  ds rest l p.2 (fw (p.1++[dL c.length]) c.length (p.1.length+1:Nat))
 | .ret rest,l,n,c=>ds rest l n (c++[m9])
def hN{α:Type}(f:α->ByteArray)(k:Int):List α->Nat->List dv
 | [],_=>[]
 | x::l,i=>⟨f x,k,i⟩::hN f k l (i+1)
def a5(p:bC):List dv:=hN (·.1) 1 p.globals 0++hN (·.name) 2 p.af 0++hN (·.name) 3 p.funcs 0
def dy:List (ByteArray×Bool)->Int->Int->List dv
 | [],_,_=>[]
 | (s,true)::l,i,k=>⟨s,5,k⟩::dy l i (k+1)
 | (s,false)::l,i,k=>⟨s,4,i⟩::dy l (i+1) k
def b5(ps:List (ByteArray×Bool)):Int:=((ps.filter λq=>!q.2).length:Nat)
def bJ(ps:List (ByteArray×Bool)):Int:=((ps.filter λq=>q.2).length:Nat)
def dQ(p:bC)(f:a1):cG:=
 let q:=ds f.body (a5 p++dy f.params 0 0) (b5 f.params) []
 ⟨f.name,b5 f.params,bJ f.params,q.2,q.1++[m9]⟩
def hZ:ByteArray:=⟨#[109,97,105,110]⟩
def hY(p:bC):ay:=⟨p.globals.map (·.2),p.af,p.funcs.map (dQ p),ix (a5 p) hZ⟩
def VE.lit:VE->Prop
 | .num n=>0<=n/\n<=9223372036854775807
 | .un _ x=>x.lit
 | .bin _ x y=>x.lit/\y.lit
 | _=>True
structure gJ where
 ng:Nat
 af:List bI
 sig:List (Int×Int)
def fC(U:gJ)(nl:Int)(e:VE):Prop:=e.ok U.ng nl.toNat/\e.lit
def cQ(U:gJ)(nl nk:Int)(p:bN):Prop:=
 (p.param=true/\0<=p.index/\p.index<nk/\p.at_=none)\/
 (p.param=false/\∃m,0<=p.index/\U.af[p.index.toNat]?=some m/\(0<m.size->∃e,p.at_=some e/\fC U nl e)/\(¬0<m.size->p.at_=none))
def g5(U:gJ)(nl nk:Int)(len:Nat)(x:ax):Prop:=
 (x.op=1/\(∃e,x.expr=some e/\fC U nl e)/\0<=x.target/\(x.c5=true->x.target<U.ng)/\(x.c5=false->x.target<nl))\/
 ((x.op=2\/x.op=3)/\x.c5=false/\∃s,0<=x.target/\U.sig[x.target.toNat]?=some s/\(x.ints.length:Int)=s.1/\(x.places.length:Int)=s.2/\(∀e∈x.ints,fC U nl e)/\∀p∈x.places,cQ U nl nk p)\/
 ((x.op=4\/x.op=5)/\x.c5=false/\cQ U nl nk x.place)\/
 (x.op=6/\x.c5=false/\(∃e,x.expr=some e/\fC U nl e)/\0<=x.target/\x.target<=len)\/
 (x.op=7/\x.c5=false/\0<=x.target/\x.target<=len)\/
 (x.op=8/\x.c5=false)
structure Sc(U:gJ)(G:Env)(l:List dv)(V T:Kk)(n nk:Int):Prop where
 vars:∀s∈V,∃e,dg l s=some e/\((e.kind=1/\0<=e.n/\e.n<U.ng)\/(e.kind=4/\0<=e.n/\e.n<n))
 HG:∀m∈G.af,∃e,dg l m.name=some e/\e.kind=2/\0<=e.n/\U.af[e.n.toNat]?=some m
 Dq:∀s,(s,true)∈G.params->∃e,dg l s=some e/\e.kind=5/\0<=e.n/\e.n<nk
 fns:∀s ps,(s,ps)∈G.funcs->∃e,dg l s=some e/\e.kind=3/\0<=e.n/\U.sig[e.n.toNat]?=some (b5 ps,bJ ps)
 taken:∀e∈l,e.name∈T
 n0:0<=n
variable{e:dv}
theorem iO{l:List dv}{x:dv}(h:dg l s=some e):dg (l++[x]) s=some e:=by
 unfold dg at *;rw[List.find?_append,h];rfl
theorem w9{l:List dv}{T:Kk}(ht:∀e∈l,e.name∈T)(hs:s∉T)(k n:Int):dg (l++[⟨s,k,n⟩]) s=some ⟨s,k,n⟩:=by
 unfold dg;rw[List.find?_append,List.find?_eq_none.2 (λe he=>by
  simp only[Kc];rintro rfl;exact hs (ht e he))]
 simp
section
variable {U:gJ} {G:Env} {l:List dv} {V T:Kk} {n aQ nk:Int}
theorem Sc.mono(h:Sc U G l V T n nk)(hn:n<=aQ):Sc U G l V T aQ nk:=
 ⟨λs hs=>by obtain⟨e,he,aj⟩:=h.vars s hs;exact⟨e,he,aj.imp id λ⟨a,b,c⟩=>⟨a,b,ad⟩⟩,h.HG,h.Dq,h.fns,h.taken,by have:=h.n0;omega⟩
theorem Sc.add(h:Sc U G l V T n nk)(hs:s∉T):Sc U G (l++[⟨s,4,n⟩]) (V++[s]) (T++[s]) (n+1) nk where
 vars:=λx hx=>by
  rcases JR.1 hx with hx|hx
  .obtain⟨e,he,aj⟩:=h.vars x hx;exact⟨e,iO he,aj.imp id λ⟨a,b,c⟩=>⟨a,b,ad⟩⟩
  .have:x=s:=by simpa using hx
   subst this;exact⟨_,w9 h.taken hs 4 n,.inr ⟨rfl,h.n0,by show n<n+1;omega⟩⟩
 HG:=λm hm=>by obtain⟨e,he,r⟩:=h.HG m hm;exact⟨e,iO he,r⟩
 Dq:=λx hx=>by obtain⟨e,he,r⟩:=h.Dq x hx;exact⟨e,iO he,r⟩
 fns:=λx ps hx=>by obtain⟨e,he,r⟩:=h.fns x ps hx;exact⟨e,iO he,r⟩
 taken:=λe he=>by
  rcases JR.1 he with he|he
  .exact JR.2 (.inl (h.taken e he))
  .have:e=⟨s,4,n⟩:=by simpa using he
   subst this;simp
 n0:=by have:=h.n0;omega
end
theorem nA{ng nl a:Nat}(h:nl<=a):∀x:VE,x.ok ng nl->x.ok ng a
 | .num _,_=>trivial
 | .eP _,F=>F.elim
 | .loc k,F=>⟨F.1,by have:=F.2;omega⟩
 | .hP k,F=>F
 | .un _ x,F=>⟨F.1,nA h x F.2⟩
 | .bin _ x y,F=>⟨F.1,nA h x F.2.1,nA h y F.2.2⟩
theorem fC.mono{U:gJ}{n aQ:Int}{e:VE}(h:fC U n e)(hn:n<=aQ):fC U aQ e:=⟨nA (nl:=n.toNat) (a:=aQ.toNat) ad e h.1,h.2⟩
theorem cQ.mono{U:gJ}{n aQ nk:Int}{p:bN}(h:cQ U n nk p)(hn:n<=aQ):cQ U aQ nk p:=
 h.imp id λ⟨a,m,b,c,d,e⟩=>⟨a,m,b,c,λhs=>by obtain⟨x,hx,aj⟩:=d hs;exact⟨x,hx,aj.mono hn⟩,e⟩
theorem g5.mono{U:gJ}{n aQ nk:Int}{k u:Nat}{x:ax}(h:g5 U n nk k x)(hn:n<=aQ)(aj:k<=u):g5 U aQ nk u x:=by
 rcases h with⟨ac,⟨e,he,bb⟩,ap,aD,bt⟩|⟨ac,aS,s,ap,aD,bt,cl,Q,g⟩|⟨ac,aS,ap⟩|⟨ac,aS,⟨e,he,bb⟩,ap,aD⟩|⟨ac,aS,ap,aD⟩|h
 .exact .inl ⟨ac,⟨e,he,bb.mono hn⟩,ap,aD,λh=>by have:=bt h;omega⟩
 .exact .inr (.inl ⟨ac,aS,s,ap,aD,bt,cl,λe he=>(Q e he).mono hn,λp hp=>(g p hp).mono hn⟩)
 .exact .inr (.inr (.inl ⟨ac,aS,ap.mono hn⟩))
 .exact .inr (.inr (.inr (.inl ⟨ac,aS,⟨e,he,bb.mono hn⟩,ap,ad⟩)))
 .exact .inr (.inr (.inr (.inr (.inl ⟨ac,aS,ap,ad⟩))))
 .exact .inr (.inr (.inr (.inr (.inr h))))
section
variable {U:gJ} {G:Env} {l:List dv} {V T:Kk} {n nk:Int} (hS:Sc U G l V T n nk)
include hS
theorem g9:∀(d:Nat) (x:VE),x.src V d->fC U n (bG l x)
 | d,.num k,h=>by
  have F:0<=k/\k<4611686018427387904:=by cases d<;>exact h
  exact⟨trivial,by show 0<=k/\k<=9223372036854775807;omega⟩
 | d,.eP s,h=>by
  have F:s∈V:=by cases d<;>exact h
  obtain⟨e,he,aj⟩:=hS.vars s F;have hn:=hS.n0;unfold bG;simp only[he];rcases aj with⟨ac,ap,aD⟩|⟨ac,ap,aD⟩
  .rw[if_pos ac];exact⟨⟨ap,aD⟩,trivial⟩
  .rw[if_neg ad]
   exact⟨⟨ap,ad⟩,trivial⟩
 | d,.loc _,h=>by cases d<;>exact h.elim
 | d,.hP _,h=>by cases d<;>exact h.elim
 | 0,.un _ _,h=>h.elim
 | 0,.bin _ _ _,h=>h.elim
 | d+1,.un op x,h=>by
  have ab:=g9 d x h.2
  exact⟨⟨h.1,ab.1⟩,ab.2⟩
 | d+1,.bin op x y,h=>by
  have c:=g9 d x h.2.1;have i:=g9 d y h.2.2;exact⟨⟨h.1,c.1,i.1⟩,c.2,i.2⟩
theorem wA(r:eR)(h:wL G V r):cQ U n nk (la l r):=by
 unfold la;rcases h with⟨m,hm,hn,ac,ap⟩|⟨hp,I⟩
 .obtain⟨e,he,aj,h0,hu⟩:=hS.HG m hm;rw[<-hn];simp only[he];refine .inr ⟨by simp[aj],m,h0,hu,λhs=>?_,λhs=>by simp[ap hs]⟩;obtain⟨x,hx,ay⟩:=ac hs;exact⟨bG l x,by simp[hx],g9 hS 2 x ay⟩
 .obtain⟨e,he,aj,h0,aq⟩:=hS.Dq _ hp;simp only[he];exact .inl ⟨by simp[aj],h0,aq,by simp[I]⟩
theorem rb:∀(ps:List (ByteArray×Bool)) (aH:List dh),lp G V ps aH->
  ((bL l aH).length:Int)=b5 ps/\((cr l aH).length:Int)=bJ ps/\(∀e∈bL l aH,fC U n e)/\∀p∈cr l aH,cQ U n nk p
 | [],[],_=>⟨rfl,rfl,λe h=>by simp[bL] at h,λe h=>by simp[cr] at h⟩
 | (s,b)::ps,.mx r::aH,h=>by
  obtain⟨ac,ap,aD,bt⟩:=rb ps aH h.2;have O:b=true:=h.1.1;subst O;refine⟨?_,?_,aD,?_⟩
  .simpa[bL,b5] using ac
  .simp only[cr,JV,bJ] at ap ⊢;simp;omega
  .intro p hp;simp only[cr,JY] at hp;rcases hp with rfl|hp
   .exact wA hS r h.1.2
   .exact bt p hp
 | (s,b)::ps,.ex e::aH,h=>by
  obtain⟨ac,ap,aD,bt⟩:=rb ps aH h.2;have O:b=false:=h.1.1;subst O;refine⟨?_,?_,?_,bt⟩
  .simp only[bL,JV,b5] at ac ⊢;simp;omega
  .simpa[cr,bJ] using ap
  .intro p hp;simp only[bL,JY] at hp;rcases hp with rfl|hp
   .exact g9 hS 2 e h.1.2
   .exact aD p hp
 | [],_::_,h=>h.elim
 | _::_,[],h=>h.elim
end
theorem nD(a:List ax)(x:ax)(b:List ax)(t:Int):fw (a++x::b) a.length t=a++{x with target:=t}::b:=by
 unfold fw
 induction a with
 | nil=>rfl
 | cons y a ab=>simp only[JX,JV,List.modify_succ_cons,ab]
structure xJ(U:gJ)(nk n:Int)(c:List ax)(num:Nat)(r:List ax×Int):Prop where
 ex:∃s,r.1=c++s/\s.length<=2*num/\∀x∈s,g5 U r.2 nk r.1.length x
 le:n<=r.2
 ge:r.2<=n+num
theorem xJ.step{U:gJ}{nk n aQ:Int}{c m:List ax}{k num:Nat}{r:List ax×Int}(hm:m.length<=2*k)(b2:∀x∈m,g5 U aQ nk (c++m).length x)(hn:n<=aQ)(bj:aQ<=n+k)(h:xJ U nk aQ (c++m) num r):xJ U nk n c (num+k) r:=by
 obtain⟨⟨s,hs,hl,aj⟩,hle,bm⟩:=h;refine⟨⟨m++s,by rw[hs,JW],by simp;omega,λx hx=>?_⟩,ad,ad⟩;rcases JR.1 hx with hx|hx
 .exact(b2 x hx).mono hle (by rw[hs];simp)
 .exact aj x hx
theorem dz{U:gJ}{G:Env}{nk:Int}:∀(b:an) (d:Nat) (l:List dv) (V T:Kk) (n:Int) (c:List ax),gr G d V T b->Sc U G l V T n nk->xJ U nk n c b.num (ds b l n c)
 | .nil,d,l,V,T,n,c,_,_=>⟨⟨[],by simp[ds],by simp,λx h=>by simp at h⟩,Int.le_refl _,by simp[ds,an.num]⟩
 | .set true s e rest,d,l,V,T,n,c,h,hS=>by
  have F:bw s.data.toList=true/\s∉T/\e.src V 2/\gr G d (V++[s]) (T++[s]) rest:=by cases d<;>exact h
  have ab:=dz rest d _ _ _ (n+1) (c++[kG n false (bG l e)]) F.2.2.2 (hS.add F.2.1);refine xJ.step (m:=[kG n false (bG l e)]) (k:=1) (by simp) (λx hx=>?_) ad ad ab;have:x=kG n false (bG l e):=by simpa using hx
  subst this
  exact .inl ⟨rfl,⟨_,rfl,(g9 hS 2 e F.2.2.1).mono ad⟩,hS.n0,(λh=>by cases h),λ_=>by show n<n+1;omega⟩
 | .set false s e rest,d,l,V,T,n,c,h,hS=>by
  have F:s∈V/\e.src V 2/\gr G d V T rest:=by cases d<;>exact h
  have ab:=dz rest d _ _ _ n (c++[kG (ix l s) (sc l s == 1) (bG l e)]) F.2.2 hS;refine xJ.step (m:=[kG (ix l s) (sc l s == 1) (bG l e)]) (k:=1) (by simp) (λx hx=>?_) (Int.le_refl _) ad ab;have:x=kG (ix l s) (sc l s == 1) (bG l e):=by simpa using hx
  subst this;obtain⟨v,bD,aj⟩:=hS.vars s F.1;have e1:ix l s=v.n:=by simp[ix,bD]
  have e2:sc l s=v.kind:=by simp[sc,bD]
  rw[e1,e2];refine .inl ⟨rfl,⟨_,rfl,g9 hS 2 e F.2.1⟩,?_,λaS=>?_,λaS=>?_⟩
  .show 0<=v.n;omega
  .have j:v.kind=1:=by simpa[kG] using aS
   show v.n<_
   omega
  .have j:¬v.kind=1:=by simpa[kG] using aS
   show v.n<n
   omega
 | .call g s aH rest,d,l,V,T,n,c,h,hS=>by
  have F:(∃ps,(s,ps)∈G.funcs/\lp G V ps aH)/\gr G d V T rest:=by cases d<;>exact h
  obtain⟨⟨ps,aA,has⟩,aZ⟩:=F;have ab:=dz rest d _ _ _ n (c++[kK g (ix l s) (bL l aH) (cr l aH)]) aZ hS;refine xJ.step (m:=[kK g (ix l s) (bL l aH) (cr l aH)]) (k:=1) (by simp) (λx hx=>?_) (Int.le_refl _) ad ab;have:x=kK g (ix l s) (bL l aH) (cr l aH):=by simpa using hx
  subst this;obtain⟨v,bD,_,h0,hu⟩:=hS.fns s ps aA;have e1:ix l s=v.n:=by simp[ix,bD]
  obtain⟨q,y,a3,a4⟩:=rb hS ps aH has;rw[e1]
  exact .inr (.inl ⟨by cases g<;>simp[kK],rfl,_,h0,hu,q,y,a3,a4⟩)
 | .lock u r rest,d,l,V,T,n,c,h,hS=>by
  have F:wL G V r/\gr G d V T rest:=by cases d<;>exact h
  have ab:=dz rest d _ _ _ n (c++[ou u (la l r)]) F.2 hS;refine xJ.step (m:=[ou u (la l r)]) (k:=1) (by simp) (λx hx=>?_) (Int.le_refl _) ad ab;have:x=ou u (la l r):=by simpa using hx
  subst this
  exact .inr (.inr (.inl ⟨by cases u<;>simp[ou],rfl,wA hS r F.1⟩))
 | .ret rest,d,l,V,T,n,c,h,hS=>by
  have F:gr G d V T rest:=by cases d<;>exact h
  have ab:=dz rest d _ _ _ n (c++[m9]) F hS;refine xJ.step (m:=[m9]) (k:=1) (by simp) (λx hx=>?_) (Int.le_refl _) ad ab;have:x=m9:=by simpa using hx
  subst this
  exact .inr (.inr (.inr (.inr (.inr ⟨rfl,rfl⟩))))
 | .ite e th el rest,0,l,V,T,n,c,h,hS=>h.elim
 | .fL e th rest,0,l,V,T,n,c,h,hS=>h.elim
 | .ite e th el rest,d+1,l,V,T,n,c,h,hS=>by
  have i1:=dz th d l V T n (c++[jQ (bG l e) 0]) h.2.1 hS;have ar:=g9 hS 2 e h.1;unfold ds;simp only[];generalize ds th l n (c++[jQ (bG l e) 0])=p at *;obtain⟨⟨s1,ct,I,bI⟩,bh,c6⟩:=i1;obtain⟨J,n1⟩:=p;simp only[] at *;have o:J=c++jQ (bG l e) 0::s1:=by rw[ct];simp
  cases hn:el.isNil with
  | true=>
   simp only[if_true];have ag:fw J c.length J.length=c++jQ (bG l e) J.length::s1:=by
    generalize (J.length:Int)=t;rw[o];exact nD c _ s1 t
   rw[ag];have i3:=dz rest (d+1) l V T n1 (c++jQ (bG l e) J.length::s1) h.2.2.2 (hS.mono bh);have hlen:J.length=c.length+s1.length+1:=by rw[o];simp;omega
   have:=xJ.step (k:=th.num+el.num+1) (n:=n) (m:=jQ (bG l e) J.length::s1) (by simp;omega) (λx hx=>?_) bh ad i3
   .rw[show (an.ite e th el rest).num=rest.num+(th.num+el.num+1) by simp only[an.num];omega];exact this
   .rcases JY.1 hx with rfl|hx
    .exact .inr (.inr (.inr (.inl ⟨rfl,rfl,⟨_,rfl,ar.mono bh⟩,by show (0:Int)<=(J.length:Int);omega,by show (J.length:Int)<=_;rw[hlen];simp;omega⟩)))
    .exact(bI x hx).mono (Int.le_refl _) (by rw[hlen];simp;omega)
  | false=>
   simp only[Kd,if_false];have ag:fw (J++[dL 0]) c.length (J.length+1:Nat)=c++jQ (bG l e) (J.length+1:Nat)::(s1++[dL 0]):=by
    generalize ((J.length+1:Nat):Int)=t;rw[o,JW,JX];exact nD c _ _ t
   have hlen:J.length=c.length+s1.length+1:=by rw[o];simp;omega
   rw[ag];have i2:=dz el d l V T n1 (c++jQ (bG l e) (J.length+1:Nat)::(s1++[dL 0])) h.2.2.1 (hS.mono bh);generalize ds el l n1 (c++jQ (bG l e) (J.length+1:Nat)::(s1++[dL 0]))=k at *;obtain⟨⟨s2,bz,bZ,b4⟩,fs,fr⟩:=i2;obtain⟨cp,n2⟩:=k;simp only[] at *;have f:cp=(c++jQ (bG l e) (J.length+1:Nat)::s1)++dL 0::s2:=by rw[bz];simp
   have i:fw cp J.length cp.length=(c++jQ (bG l e) (J.length+1:Nat)::s1)++dL cp.length::s2:=by
    have bB:J.length=(c++jQ (bG l e) (J.length+1:Nat)::s1).length:=by rw[hlen];simp;omega
    generalize (cp.length:Int)=t;rw[f,congrArg (fw _) bB];exact nD _ _ s2 t
   have a:cp.length=c.length+s1.length+s2.length+2:=by rw[f];simp;omega
   rw[i,JW,JX];have i3:=dz rest (d+1) l V T n2 (c++jQ (bG l e) (J.length+1:Nat)::(s1++dL cp.length::s2)) h.2.2.2 (hS.mono ad);have:=xJ.step (k:=th.num+el.num+1) (n:=n) (m:=jQ (bG l e) (J.length+1:Nat)::(s1++dL cp.length::s2)) (by simp;omega) (λx hx=>?_) ad ad i3
   .rw[show (an.ite e th el rest).num=rest.num+(th.num+el.num+1) by simp only[an.num];omega];exact this
   .rcases JY.1 hx with rfl|hx
    .exact .inr (.inr (.inr (.inl ⟨rfl,rfl,⟨_,rfl,ar.mono ad⟩,by show (0:Int)<=((J.length+1:Nat):Int);omega,by show ((J.length+1:Nat):Int)<=_;rw[hlen];simp;omega⟩)))
    .rcases JR.1 hx with hx|hx
     .exact(bI x hx).mono ad (by rw[hlen];simp;omega)
     .rcases JY.1 hx with rfl|hx
      .exact .inr (.inr (.inr (.inr (.inl ⟨rfl,rfl,by show (0:Int)<=(cp.length:Int);omega,by show (cp.length:Int)<=_;rw[a];simp;omega⟩))))
      .exact(b4 x hx).mono (Int.le_refl _) (by rw[a];simp;omega)
 | .fL e th rest,d+1,l,V,T,n,c,h,hS=>by
  have i1:=dz th d l V T n (c++[jQ (bG l e) 0]) h.2.1 hS;have ar:=g9 hS 2 e h.1;unfold ds;simp only[];generalize ds th l n (c++[jQ (bG l e) 0])=p at *;obtain⟨⟨s1,ct,I,bI⟩,bh,c6⟩:=i1;obtain⟨J,n1⟩:=p;simp only[] at *;have o:J=c++jQ (bG l e) 0::s1:=by rw[ct];simp
  have hlen:J.length=c.length+s1.length+1:=by rw[o];simp;omega
  have ag:fw (J++[dL c.length]) c.length (J.length+1:Nat)=c++jQ (bG l e) (J.length+1:Nat)::(s1++[dL c.length]):=by
   generalize ((J.length+1:Nat):Int)=t;rw[o,JW,JX];exact nD c _ _ t
  rw[ag];have i3:=dz rest (d+1) l V T n1 (c++jQ (bG l e) (J.length+1:Nat)::(s1++[dL c.length])) h.2.2 (hS.mono bh);have:=xJ.step (k:=th.num+1) (n:=n) (m:=jQ (bG l e) (J.length+1:Nat)::(s1++[dL c.length])) (by simp;omega) (λx hx=>?_) bh ad i3
  .rw[show (an.fL e th rest).num=rest.num+(th.num+1) by simp only[an.num];omega];exact this
  .rcases JY.1 hx with rfl|hx
   .exact .inr (.inr (.inr (.inl ⟨rfl,rfl,⟨_,rfl,ar.mono bh⟩,by show (0:Int)<=((J.length+1:Nat):Int);omega,by show ((J.length+1:Nat):Int)<=_;rw[hlen];simp;omega⟩)))
   .rcases JR.1 hx with hx|hx
    .exact(bI x hx).mono (Int.le_refl _) (by rw[hlen];simp;omega)
    .have:x=dL c.length:=by simpa using hx
     subst this;exact .inr (.inr (.inr (.inr (.inl ⟨rfl,rfl,by show (0:Int)<=(c.length:Int);omega,by show (c.length:Int)<=_;simp;omega⟩))))
theorem ko{l:List dv}(hn:(l.map (·.name)).Nodup)(he:e∈l):dg l e.name=some e:=by
 induction l with
 | nil=>simp at he
 | cons x l ab=>
  simp only[JO,List.nodup_cons] at hn;unfold dg at *;rcases JY.1 he with rfl|he
  .simp
  .rw[List.find?_cons_of_neg,ab hn.2 he];simp only[Kc];intro hx;exact hn.1 (by rw[hx];exact J6.2 ⟨e,he,rfl⟩)
theorem mN{α:Type}(f:α->ByteArray)(k:Int):∀(l:List α) (i:Nat),(hN f k l i).map (·.name)=l.map f
 | [],_=>rfl
 | x::l,i=>by simp only[hN,JO,mN f k l (i+1)]
theorem hg{α:Type}(f:α->ByteArray)(k:Int):∀(l:List α) (i j:Nat) (x:α),l[j]?=some x->⟨f x,k,((i+j:Nat):Int)⟩∈hN f k l i
 | [],i,j,x,h=>by simp at h
 | y::l,i,0,x,h=>by
  simp only[List.getElem?_cons_zero,Ka] at h;subst h
  simp[hN]
 | y::l,i,j+1,x,h=>by
  simp only[List.getElem?_cons_succ] at h;have:=hg f k l (i+1) j x h;rw[show i+1+j=i+(j+1) by omega] at this;rw[hN];exact List.mem_cons_of_mem _ this
theorem fi:∀(ps:List (ByteArray×Bool)) (i k:Int),(dy ps i k).map (·.name)=ps.map (·.1)
 | [],_,_=>rfl
 | (s,true)::l,i,k=>by simp only[dy,JO,fi l]
 | (s,false)::l,i,k=>by simp only[dy,JO,fi l]
theorem ga(s:ByteArray)(b:Bool)(ps:List (ByteArray×Bool)):b5 ((s,b)::ps)=b5 ps+(if b then 0 else 1)/\bJ ((s,b)::ps)=bJ ps+(if b then 1 else 0):=by
 cases b<;>simp[b5,bJ]
theorem h1(ps:List (ByteArray×Bool)):0<=b5 ps/\0<=bJ ps:=⟨Int.natCast_nonneg _,Int.natCast_nonneg _⟩
theorem mr:∀(ps:List (ByteArray×Bool)) (i k:Int) (s:ByteArray),(s,true)∈ps->∃e∈dy ps i k,e.name=s/\e.kind=5/\k<=e.n/\e.n<k+bJ ps
 | [],_,_,s,h=>by simp at h
 | (x,b)::l,i,k,s,h0=>by
  have hc:=(ga x b l).2;have aT:=(h1 l).2;rcases JY.1 h0 with h|h
  .injection h with ac ap;subst ac ap;rw[hc];exact⟨⟨s,5,k⟩,by simp[dy],rfl,rfl,Int.le_refl _,by simp;omega⟩
  .cases b with
   | true=>
    obtain⟨e,he,ac,ap,aD,bt⟩:=mr l i (k+1) s h;rw[hc]
    exact⟨e,by simp[dy,he],ac,ap,ad,by simp;omega⟩
   | false=>
    obtain⟨e,he,ac,ap,aD,bt⟩:=mr l (i+1) k s h;rw[hc];exact⟨e,by simp[dy,he],ac,ap,ad,by simp;omega⟩
theorem oO:∀(ps:List (ByteArray×Bool)) (i k:Int) (s:ByteArray),(s,false)∈ps->∃e∈dy ps i k,e.name=s/\e.kind=4/\i<=e.n/\e.n<i+b5 ps
 | [],_,_,s,h=>by simp at h
 | (x,b)::l,i,k,s,h0=>by
  have hc:=(ga x b l).1;have aT:=(h1 l).1;rcases JY.1 h0 with h|h
  .injection h with ac ap;subst ac ap;rw[hc];exact⟨⟨s,4,i⟩,by simp[dy],rfl,rfl,Int.le_refl _,by simp;omega⟩
  .cases b with
   | true=>
    obtain⟨e,he,ac,ap,aD,bt⟩:=oO l i (k+1) s h;rw[hc]
    exact⟨e,by simp[dy,he],ac,ap,ad,by simp;omega⟩
   | false=>
    obtain⟨e,he,ac,ap,aD,bt⟩:=oO l (i+1) k s h;rw[hc];exact⟨e,by simp[dy,he],ac,ap,ad,by simp;omega⟩
theorem fo(p:bC):(a5 p).map (·.name)=bF p:=by
 simp only[a5,bF,gU,JP,mN]
def bp(u:ay):gJ:=⟨u.globals.length,u.af,u.procs.map λp=>(p.ints,p.aq)⟩
structure oP(U:gJ)(p:cG):Prop where
 ints:0<=p.ints/\p.ints<=p.locals/\p.locals<=200
 aq:0<=p.aq/\p.aq<=100
 code:∃s,p.code=s++[m9]/\s.length<=200/\∀x∈s,g5 U p.locals p.aq s.length x
structure de(u:ay):Prop where
 procs:∀p∈u.procs,oP (bp u) p
 IT:u.procs.length<=16
 main:∃p,0<=u.main/\u.procs[u.main.toNat]?=some p/\p.ints=0/\p.aq=0
 uC:u.af.length<=12
 gE:∀m∈u.af,0<=m.size/\m.size<=64
 lN:u.globals.length<=16
 globals:∀g∈u.globals,-9223372036854775807<=g/\g<=9223372036854775807
theorem mZ(p:bC):bp (hY p)=⟨p.globals.length,p.af,p.funcs.map λf=>(b5 f.params,bJ f.params)⟩:=by
 simp only[bp,hY,JM,List.map_map];rfl
theorem sV(hp:nE p)(aA:f∈p.funcs):
  Sc (bp (hY p)) (kI p f) (a5 p++dy f.params 0 0) (gU p++hR f.params) (bF p++f.params.map (·.1)) (b5 f.params) (bJ f.params):=by
 have hF:=hp.funcs f aA;have aR:((a5 p++dy f.params 0 0).map (·.name)).Nodup:=by
  rw[JP,fo,fi];exact hF.fresh
 have ab:=λe (he:e∈a5 p++dy f.params 0 0)=>ko aR he;rw[mZ];constructor
 .intro s hs;rcases JR.1 hs with hs|hs
  .obtain⟨g,aS,rfl⟩:=J6.1 hs;obtain⟨i,I⟩:=List.getElem?_of_mem aS;have:=ab _ (JR.2 (.inl (by unfold a5;exact JR.2 (.inl (JR.2 (.inl (hg (·.1) 1 p.globals 0 i g I)))))));refine⟨_,this,.inl ⟨rfl,by show (0:Int)<=((0+i:Nat):Int);omega,?_⟩⟩;have:=(List.getElem?_eq_some_iff.1 I).1;show ((0+i:Nat):Int)<(p.globals.length:Int)
   omega
  .obtain⟨⟨q,b⟩,bx,rfl⟩:=J6.1 hs;obtain⟨dH,aN⟩:=List.mem_filter.1 bx;have O:b=false:=by simpa using aN
   subst O;obtain⟨e,he,ac,ap,aD,bt⟩:=oO f.params 0 0 q dH;have:=ab e (JR.2 (.inr he));rw[ac] at this;exact⟨e,this,.inr ⟨ap,aD,ad⟩⟩
 .intro m hm;obtain⟨i,I⟩:=List.getElem?_of_mem hm;have:=ab _ (JR.2 (.inl (by unfold a5;exact JR.2 (.inl (JR.2 (.inr (hg (·.name) 2 p.af 0 i m I)))))));refine⟨_,this,rfl,by show (0:Int)<=((0+i:Nat):Int);omega,?_⟩;show p.af[(((0+i:Nat):Int)).toNat]?=some m
  rw[J3,J0];exact I
 .intro s hs;obtain⟨e,he,ac,ap,aD,bt⟩:=mr f.params 0 0 s hs;have:=ab e (JR.2 (.inr he));rw[ac] at this;exact⟨e,this,ap,aD,ad⟩
 .intro s ps hs;obtain⟨g,aS,aH⟩:=J6.1 hs;injection aH with N bb;subst N bb;obtain⟨i,I⟩:=List.getElem?_of_mem aS;have:=ab _ (JR.2 (.inl (by unfold a5;exact JR.2 (.inr (hg (·.name) 3 p.funcs 0 i g I)))));refine⟨_,this,rfl,by show (0:Int)<=((0+i:Nat):Int);omega,?_⟩;show (p.funcs.map λf=>(b5 f.params,bJ f.params))[(((0+i:Nat):Int)).toNat]?=_
  rw[J3,J0,List.getElem?_map,I];rfl
 .intro e he;have:e.name∈(a5 p++dy f.params 0 0).map (·.name):=J6.2 ⟨e,he,rfl⟩;rw[JP,fo,fi] at this;exact this
 .exact(h1 _).1
theorem iA{α:Type}(g:α->Nat){l:List α}{x:α}(h:x∈l):g x<=(l.map g).sum:=by
 induction l with
 | nil=>simp at h
 | cons y l ab=>
  simp only[JO,List.sum_cons];rcases JY.1 h with rfl|h
  .omega
  .have:=ab h;omega
theorem lM(ps:List (ByteArray×Bool)):b5 ps<=ps.length/\bJ ps<=ps.length:=by
 unfold b5 bJ;have ac:=List.length_filter_le (λq:ByteArray×Bool=>!q.2) ps;have ap:=List.length_filter_le (λq:ByteArray×Bool=>q.2) ps;omega
theorem Eu(hp:nE p)(aA:f∈p.funcs):oP (bp (hY p)) (dQ p f):=by
 have hF:=hp.funcs f aA;obtain⟨⟨s,hs,hl,aj⟩,hle,bm⟩:=dz f.body 4 _ _ _ (b5 f.params) [] hF.body (sV hp aA);have F:f.body.num<=64:=JZ (iA (λf:a1=>f.body.num) aA) hp.iN;have L:=hF.iN;have hn:=lM f.params;have aT:=h1 f.params;refine⟨⟨aT.1,hle,?_⟩,⟨aT.2,?_⟩,?_⟩
 .show (ds f.body (a5 p++dy f.params 0 0) (b5 f.params) []).2<=200
  omega
 .show bJ f.params<=100
  omega
 .refine⟨(ds f.body (a5 p++dy f.params 0 0) (b5 f.params) []).1,rfl,?_,?_⟩
  .rw[hs];simp;omega
  .intro x hx;have d:x∈s:=by rw[hs] at hx;simpa using hx
   exact aj x d
theorem wg(hp:nE p):de (hY p):=by
 refine⟨λq bx=>?_,?_,?_,hp.uC,λm hm=>⟨(hp.gE m hm).1,(hp.gE m hm).2.1⟩,?_,λg aS=>?_⟩
 .obtain⟨f,aA,rfl⟩:=J6.1 bx;exact Eu hp aA
 .show (p.funcs.map (dQ p)).length<=16
  rw[JM];exact hp.xl
 .obtain⟨i,f,I,hn,b3⟩:=hp.main;have aR:((a5 p).map (·.name)).Nodup:=by rw[fo];exact hp.nodup
  have he:=ko aR (show _∈a5 p by unfold a5;exact JR.2 (.inr (hg (·.name) 3 p.funcs 0 i f I)));have hm:(hY p).main=(i:Int):=by
   show ix (a5 p) hZ=(i:Int)
   simp only[hn,J0] at he;unfold ix;rw[show hZ=⟨#[109,97,105,110]⟩ from rfl,he]
  refine⟨dQ p f,by rw[hm];omega,?_,?_,?_⟩
  .rw[hm,J3];show (p.funcs.map (dQ p))[i]?=_
   rw[List.getElem?_map,I];rfl
  .show b5 f.params=0
   rw[b3];rfl
  .show bJ f.params=0
   rw[b3];rfl
 .show (p.globals.map (·.2)).length<=16
  rw[JM];exact hp.lN
 .obtain⟨k,aj,rfl⟩:=J6.1 aS;exact hp.inits k aj
end Go.Proofs.YtnigabjngpnbiaaGreat

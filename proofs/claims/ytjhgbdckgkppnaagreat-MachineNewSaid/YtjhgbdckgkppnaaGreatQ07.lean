/- Part 7 of the proof (LowP), without conditions of its own. -/
import Derived.Test.YtjhgbdckgkppnaaGreatQ06
namespace Go.Proofs.YtjhgbdckgkppnaaGreat
open Go.RowKit Go.Proofs.Tryz
set_option maxRecDepth 1000000
set_option maxHeartbeats 25600000
set_option linter.unusedVariables false
variable{s:ByteArray}{f:aG}{p:bC}
structure dw where
 name:ByteArray
 kind:Int
 n:Int
def dh(l:List dw)(s:ByteArray):Option dw:=l.find? fun e=>decide (e.name=s)
def bt(l:List dw):VE→VE
 | .num n=>.num n
 | .ga s=>match dh l s with
  | some e=>if e.kind=1 then .hR e.n else .loc e.n
  | none=>.loc 0
 | .loc k=>.loc k
 | .hR k=>.hR k
 | .un op x=>.un op (bt l x)
 | .bin op x y=>.bin op (bt l x) (bt l y)
def jq(l:List dw)(r:d2):bK:=
 match dh l r.name with
 | some v=>⟨v.kind == 5,v.n,r.idx.map (bt l)⟩
 | none=>⟨false,0,r.idx.map (bt l)⟩
def ij(l:List dw)(s:ByteArray):Int:=match dh l s with
 | some v=>v.n
 | none=>0
def q6(l:List dw)(s:ByteArray):Int:=match dh l s with
 | some v=>v.kind
 | none=>0
def bA(l:List dw):List cQ→List VE
 | []=>[]
 | .ex e::aO=>bt l e::bA l aO
 | .mx _::aO=>bA l aO
def b5(l:List dw):List cQ→List bK
 | []=>[]
 | .ex _::aO=>b5 l aO
 | .mx r::aO=>jq l r::b5 l aO
def jf:bK:=⟨false,0,none⟩
def km(t:Int)(g:Bool)(e:VE):aC:=⟨1,t,g,some e,jf,[],[]⟩
def jj(g:Bool)(t:Int)(is:List VE)(ps:List bK):aC:=⟨if g then 3 else 2,t,false,none,jf,is,ps⟩
def lj(u:Bool)(p:bK):aC:=⟨if u then 5 else 4,0,false,none,p,[],[]⟩
def hP(e:VE)(t:Int):aC:=⟨6,t,false,some e,jf,[],[]⟩
def ds(t:Int):aC:=⟨7,t,false,none,jf,[],[]⟩
def lX:aC:=⟨8,0,false,none,jf,[],[]⟩
def et(c:List aC)(b:Nat)(t:Int):List aC:=c.modify b fun x=>{x with target:=t}
def b2:aj→List dw→Int→List aC→List aC×Int
 | .nil,_,n,c=>(c,n)
 | .set true s e rest,l,n,c=>b2 rest (l++[⟨s,4,n⟩]) (n+1) (c++[km n false (bt l e)])
 | .set false s e rest,l,n,c=>b2 rest l n (c++[km (ij l s) (q6 l s == 1) (bt l e)])
 | .call g s aO rest,l,n,c=>b2 rest l n (c++[jj g (ij l s) (bA l aO) (b5 l aO)])
 | .lock u r rest,l,n,c=>b2 rest l n (c++[lj u (jq l r)])
 | .ite e th el rest,l,n,c=>
  let p:=b2 th l n (c++[hP (bt l e) 0])
  let q:=if el.isNil then (et p.1 c.length p.1.length,p.2) else
   let k:=b2 el l p.2 (et (p.1++[ds 0]) c.length (p.1.length+1:Nat))
   (et k.1 p.1.length k.1.length,k.2)
  b2 rest l q.2 q.1
 | .fj e th rest,l,n,c=>
  let p:=b2 th l n (c++[hP (bt l e) 0])
  b2 rest l p.2 (et (p.1++[ds c.length]) c.length (p.1.length+1:Nat))
 | .ret rest,l,n,c=>b2 rest l n (c++[lX])
def hr{α:Type}(f:α→ByteArray)(k:Int):List α→Nat→List dw
 | [],_=>[]
 | x::l,i=>⟨f x,k,i⟩::hr f k l (i+1)
def bf(p:bC):List dw:=hr (·.1) 1 p.globals 0++hr (·.name) 2 p.af 0++hr (·.name) 3 p.funcs 0
def dC:List (ByteArray×Bool)→Int→Int→List dw
 | [],_,_=>[]
 | (s,true)::l,i,k=>⟨s,5,k⟩::dC l i (k+1)
 | (s,false)::l,i,k=>⟨s,4,i⟩::dC l (i+1) k
def bX(ps:List (ByteArray×Bool)):Int:=((ps.filter fun q=>!q.2).length:Nat)
def bI(ps:List (ByteArray×Bool)):Int:=((ps.filter fun q=>q.2).length:Nat)
def dR(p:bC)(f:aG):c5:=
 let q:=b2 f.body (bf p++dC f.params 0 0) (bX f.params) []
 ⟨f.name,bX f.params,bI f.params,q.2,q.1++[lX]⟩
def hB:ByteArray:=⟨#[109,97,105,110]⟩
def eH(p:bC):aF:=⟨p.globals.map (·.2),p.af,p.funcs.map (dR p),ij (bf p) hB⟩
def VE.lit:VE→Prop
 | .num n=>0≤n∧n≤9223372036854775807
 | .un _ x=>x.lit
 | .bin _ x y=>x.lit∧y.lit
 | _=>True
structure gu where
 ng:Nat
 af:List bF
 sig:List (Int×Int)
def fo(U:gu)(nl:Int)(e:VE):Prop:=e.ok U.ng nl.toNat∧e.lit
def cT(U:gu)(nl nk:Int)(p:bK):Prop:=
 (p.param=true∧0≤p.index∧p.index<nk∧p.at_=none)∨
 (p.param=false∧∃m,0≤p.index∧U.af[p.index.toNat]?=some m∧(0<m.size→∃e,p.at_=some e∧fo U nl e)∧(¬0<m.size→p.at_=none))
def gS(U:gu)(nl nk:Int)(len:Nat)(x:aC):Prop:=
 (x.op=1∧(∃e,x.expr=some e∧fo U nl e)∧0≤x.target∧(x.da=true→x.target<U.ng)∧(x.da=false→x.target<nl))∨
 ((x.op=2∨x.op=3)∧x.da=false∧∃s,0≤x.target∧U.sig[x.target.toNat]?=some s∧(x.ints.length:Int)=s.1∧(x.places.length:Int)=s.2∧(∀e∈x.ints,fo U nl e)∧∀p∈x.places,cT U nl nk p)∨
 ((x.op=4∨x.op=5)∧x.da=false∧cT U nl nk x.place)∨
 (x.op=6∧x.da=false∧(∃e,x.expr=some e∧fo U nl e)∧0≤x.target∧x.target≤len)∨
 (x.op=7∧x.da=false∧0≤x.target∧x.target≤len)∨
 (x.op=8∧x.da=false)
structure Sc(U:gu)(G:Env)(l:List dw)(V T:GS)(n nk:Int):Prop where
 vars:∀s∈V,∃e,dh l s=some e∧((e.kind=1∧0≤e.n∧e.n<U.ng)∨(e.kind=4∧0≤e.n∧e.n<n))
 E7:∀m∈G.af,∃e,dh l m.name=some e∧e.kind=2∧0≤e.n∧U.af[e.n.toNat]?=some m
 A0:∀s,(s,true)∈G.params→∃e,dh l s=some e∧e.kind=5∧0≤e.n∧e.n<nk
 fns:∀s ps,(s,ps)∈G.funcs→∃e,dh l s=some e∧e.kind=3∧0≤e.n∧U.sig[e.n.toNat]?=some (bX ps,bI ps)
 taken:∀e∈l,e.name∈T
 n0:0≤n
variable{e:dw}
theorem iB{l:List dw}{x:dw}(h:dh l s=some e):dh (l++[x]) s=some e:=by
 unfold dh at *;rw[List.find?_append,h];rfl
theorem vj{l:List dw}{T:GS}(ht:∀e∈l,e.name∈T)(hs:s∉T)(k n:Int):dh (l++[⟨s,k,n⟩]) s=some ⟨s,k,n⟩:=by
 unfold dh;rw[List.find?_append,List.find?_eq_none.2 (fun e he=>by
  simp only[GK];rintro rfl;exact hs (ht e he))]
 simp
section
variable {U:gu} {G:Env} {l:List dw} {V T:GS} {n L nk:Int}
theorem Sc.mono(h:Sc U G l V T n nk)(hn:n≤L):Sc U G l V T L nk:=
 ⟨fun s hs=>by obtain⟨e,he,ap⟩:=h.vars s hs;exact⟨e,he,ap.imp id fun ⟨a,b,c⟩=>⟨a,b,ad⟩⟩,h.E7,h.A0,h.fns,h.taken,by have:=h.n0;omega⟩
theorem Sc.add(h:Sc U G l V T n nk)(hs:s∉T):Sc U G (l++[⟨s,4,n⟩]) (V++[s]) (T++[s]) (n+1) nk where
 vars:=fun x hx=>by
  rcases Gk.1 hx with hx|hx
  ·obtain⟨e,he,ap⟩:=h.vars x hx;exact⟨e,iB he,ap.imp id fun ⟨a,b,c⟩=>⟨a,b,ad⟩⟩
  ·have:x=s:=by simpa using hx
   subst this;exact⟨_,vj h.taken hs 4 n,.inr ⟨rfl,h.n0,by show n<n+1;omega⟩⟩
 E7:=fun m hm=>by obtain⟨e,he,r⟩:=h.E7 m hm;exact⟨e,iB he,r⟩
 A0:=fun x hx=>by obtain⟨e,he,r⟩:=h.A0 x hx;exact⟨e,iB he,r⟩
 fns:=fun x ps hx=>by obtain⟨e,he,r⟩:=h.fns x ps hx;exact⟨e,iB he,r⟩
 taken:=fun e he=>by
  rcases Gk.1 he with he|he
  ·exact Gk.2 (.inl (h.taken e he))
  ·have:e=⟨s,4,n⟩:=by simpa using he
   subst this;simp
 n0:=by have:=h.n0;omega
end
theorem m8{ng nl a:Nat}(h:nl≤a):∀x:VE,x.ok ng nl→x.ok ng a
 | .num _,_=>trivial
 | .ga _,F=>F.elim
 | .loc k,F=>⟨F.1,by have:=F.2;omega⟩
 | .hR k,F=>F
 | .un _ x,F=>⟨F.1,m8 h x F.2⟩
 | .bin _ x y,F=>⟨F.1,m8 h x F.2.1,m8 h y F.2.2⟩
theorem fo.mono{U:gu}{n L:Int}{e:VE}(h:fo U n e)(hn:n≤L):fo U L e:=⟨m8 (nl:=n.toNat) (a:=L.toNat) ad e h.1,h.2⟩
theorem cT.mono{U:gu}{n L nk:Int}{p:bK}(h:cT U n nk p)(hn:n≤L):cT U L nk p:=
 h.imp id fun ⟨a,m,b,c,d,e⟩=>⟨a,m,b,c,fun hs=>by obtain⟨x,hx,ap⟩:=d hs;exact⟨x,hx,ap.mono hn⟩,e⟩
theorem gS.mono{U:gu}{n L nk:Int}{k F:Nat}{x:aC}(h:gS U n nk k x)(hn:n≤L)(ap:k≤F):gS U L nk F x:=by
 rcases h with⟨ac,⟨e,he,bi⟩,J,aS,bo⟩|⟨ac,aM,s,J,aS,bo,cr,aY,j⟩|⟨ac,aM,J⟩|⟨ac,aM,⟨e,he,bi⟩,J,aS⟩|⟨ac,aM,J,aS⟩|h
 ·exact .inl ⟨ac,⟨e,he,bi.mono hn⟩,J,aS,fun h=>by have:=bo h;omega⟩
 ·exact .inr (.inl ⟨ac,aM,s,J,aS,bo,cr,fun e he=>(aY e he).mono hn,fun p hp=>(j p hp).mono hn⟩)
 ·exact .inr (.inr (.inl ⟨ac,aM,J.mono hn⟩))
 ·exact .inr (.inr (.inr (.inl ⟨ac,aM,⟨e,he,bi.mono hn⟩,J,ad⟩)))
 ·exact .inr (.inr (.inr (.inr (.inl ⟨ac,aM,J,ad⟩))))
 ·exact .inr (.inr (.inr (.inr (.inr h))))
section
variable {U:gu} {G:Env} {l:List dw} {V T:GS} {n nk:Int} (hS:Sc U G l V T n nk)
include hS
theorem gW:∀(d:Nat) (x:VE),x.src V d→fo U n (bt l x)
 | d,.num k,h=>by
  have F:0≤k∧k<4611686018427387904:=by cases d<;>exact h
  exact⟨trivial,by show 0≤k∧k≤9223372036854775807;omega⟩
 | d,.ga s,h=>by
  have F:s∈V:=by cases d<;>exact h
  obtain⟨e,he,ap⟩:=hS.vars s F;have hn:=hS.n0;unfold bt;simp only[he];rcases ap with⟨ac,J,aS⟩|⟨ac,J,aS⟩
  ·rw[if_pos ac];exact⟨⟨J,aS⟩,trivial⟩
  ·rw[if_neg ad]
   exact⟨⟨J,ad⟩,trivial⟩
 | d,.loc _,h=>by cases d<;>exact h.elim
 | d,.hR _,h=>by cases d<;>exact h.elim
 | 0,.un _ _,h=>h.elim
 | 0,.bin _ _ _,h=>h.elim
 | d+1,.un op x,h=>by
  have aa:=gW d x h.2
  exact⟨⟨h.1,aa.1⟩,aa.2⟩
 | d+1,.bin op x y,h=>by
  have i:=gW d x h.2.1;have c:=gW d y h.2.2;exact⟨⟨h.1,i.1,c.1⟩,i.2,c.2⟩
theorem uS(r:d2)(h:pN G V r):cT U n nk (jq l r):=by
 unfold jq;rcases h with⟨m,hm,hn,ac,J⟩|⟨hp,aJ⟩
 ·obtain⟨e,he,ap,h0,hu⟩:=hS.E7 m hm;rw[←hn];simp only[he];refine .inr ⟨by simp[ap],m,h0,hu,fun hs=>?_,fun hs=>by simp[J hs]⟩;obtain⟨x,hx,aC⟩:=ac hs;exact⟨bt l x,by simp[hx],gW hS 2 x aC⟩
 ·obtain⟨e,he,ap,h0,ao⟩:=hS.A0 _ hp;simp only[he];exact .inl ⟨by simp[ap],h0,ao,by simp[aJ]⟩
theorem p4:∀(ps:List (ByteArray×Bool)) (aO:List cQ),hN G V ps aO→
  ((bA l aO).length:Int)=bX ps∧((b5 l aO).length:Int)=bI ps∧(∀e∈bA l aO,fo U n e)∧∀p∈b5 l aO,cT U n nk p
 | [],[],_=>⟨rfl,rfl,fun e h=>by simp[bA] at h,fun e h=>by simp[b5] at h⟩
 | (s,b)::ps,.mx r::aO,h=>by
  obtain⟨ac,J,aS,bo⟩:=p4 ps aO h.2;have O:b=true:=h.1.1;subst O;refine⟨?_,?_,aS,?_⟩
  ·simpa [bA,bX] using ac
  ·simp only[b5,Gp,bI] at J ⊢;simp;omega
  ·intro p hp;simp only[b5,Gt] at hp;rcases hp with rfl|hp
   ·exact uS hS r h.1.2
   ·exact bo p hp
 | (s,b)::ps,.ex e::aO,h=>by
  obtain⟨ac,J,aS,bo⟩:=p4 ps aO h.2;have O:b=false:=h.1.1;subst O;refine⟨?_,?_,?_,bo⟩
  ·simp only[bA,Gp,bX] at ac ⊢;simp;omega
  ·simpa [b5,bI] using J
  ·intro p hp;simp only[bA,Gt] at hp;rcases hp with rfl|hp
   ·exact gW hS 2 e h.1.2
   ·exact aS p hp
 | [],_::_,h=>h.elim
 | _::_,[],h=>h.elim
end
theorem nc(a:List aC)(x:aC)(b:List aC)(t:Int):et (a++x::b) a.length t=a++{x with target:=t}::b:=by
 unfold et
 induction a with
 | nil=>rfl
 | cons y a aa=>simp only[Gs,Gp,List.modify_succ_cons,aa]
structure vU(U:gu)(nk n:Int)(c:List aC)(num:Nat)(r:List aC×Int):Prop where
 ex:∃s,r.1=c++s∧s.length≤2*num∧∀x∈s,gS U r.2 nk r.1.length x
 le:n≤r.2
 ge:r.2≤n+num
theorem vU.step{U:gu}{nk n L:Int}{c m:List aC}{k num:Nat}{r:List aC×Int}(hm:m.length≤2*k)(ch:∀x∈m,gS U L nk (c++m).length x)(hn:n≤L)(cE:L≤n+k)(h:vU U nk L (c++m) num r):vU U nk n c (num+k) r:=by
 obtain⟨⟨s,hs,hl,ap⟩,hle,a3⟩:=h;refine⟨⟨m++s,by rw[hs,Gq],by simp;omega,fun x hx=>?_⟩,ad,ad⟩;rcases Gk.1 hx with hx|hx
 ·exact(ch x hx).mono hle (by rw[hs];simp)
 ·exact ap x hx
theorem dQ{U:gu}{G:Env}{nk:Int}:∀(b:aj) (d:Nat) (l:List dw) (V T:GS) (n:Int) (c:List aC),ej G d V T b→Sc U G l V T n nk→vU U nk n c b.num (b2 b l n c)
 | .nil,d,l,V,T,n,c,_,_=>⟨⟨[],by simp[b2],by simp,fun x h=>by simp at h⟩,Int.le_refl _,by simp[b2,aj.num]⟩
 | .set true s e rest,d,l,V,T,n,c,h,hS=>by
  have F:br s.data.toList=true∧s∉T∧e.src V 2∧ej G d (V++[s]) (T++[s]) rest:=by cases d<;>exact h
  have aa:=dQ rest d _ _ _ (n+1) (c++[km n false (bt l e)]) F.2.2.2 (hS.add F.2.1);refine vU.step (m:=[km n false (bt l e)]) (k:=1) (by simp) (fun x hx=>?_) ad ad aa;have:x=km n false (bt l e):=by simpa using hx
  subst this
  exact .inl ⟨rfl,⟨_,rfl,(gW hS 2 e F.2.2.1).mono ad⟩,hS.n0,(fun h=>by cases h),fun _=>by show n<n+1;omega⟩
 | .set false s e rest,d,l,V,T,n,c,h,hS=>by
  have F:s∈V∧e.src V 2∧ej G d V T rest:=by cases d<;>exact h
  have aa:=dQ rest d _ _ _ n (c++[km (ij l s) (q6 l s == 1) (bt l e)]) F.2.2 hS;refine vU.step (m:=[km (ij l s) (q6 l s == 1) (bt l e)]) (k:=1) (by simp) (fun x hx=>?_) (Int.le_refl _) ad aa;have:x=km (ij l s) (q6 l s == 1) (bt l e):=by simpa using hx
  subst this;obtain⟨v,bC,ap⟩:=hS.vars s F.1;have e1:ij l s=v.n:=by simp[ij,bC]
  have e2:q6 l s=v.kind:=by simp[q6,bC]
  rw[e1,e2];refine .inl ⟨rfl,⟨_,rfl,gW hS 2 e F.2.1⟩,?_,fun aM=>?_,fun aM=>?_⟩
  ·show 0≤v.n;omega
  ·have i:v.kind=1:=by simpa [km] using aM
   show v.n<_
   omega
  ·have i:¬v.kind=1:=by simpa [km] using aM
   show v.n<n
   omega
 | .call g s aO rest,d,l,V,T,n,c,h,hS=>by
  have F:(∃ps,(s,ps)∈G.funcs∧hN G V ps aO)∧ej G d V T rest:=by cases d<;>exact h
  obtain⟨⟨ps,aw,has⟩,aX⟩:=F;have aa:=dQ rest d _ _ _ n (c++[jj g (ij l s) (bA l aO) (b5 l aO)]) aX hS;refine vU.step (m:=[jj g (ij l s) (bA l aO) (b5 l aO)]) (k:=1) (by simp) (fun x hx=>?_) (Int.le_refl _) ad aa;have:x=jj g (ij l s) (bA l aO) (b5 l aO):=by simpa using hx
  subst this;obtain⟨v,bC,_,h0,hu⟩:=hS.fns s ps aw;have e1:ij l s=v.n:=by simp[ij,bC]
  obtain⟨j,y,a3,z⟩:=p4 hS ps aO has;rw[e1]
  exact .inr (.inl ⟨by cases g<;>simp[jj],rfl,_,h0,hu,j,y,a3,z⟩)
 | .lock u r rest,d,l,V,T,n,c,h,hS=>by
  have F:pN G V r∧ej G d V T rest:=by cases d<;>exact h
  have aa:=dQ rest d _ _ _ n (c++[lj u (jq l r)]) F.2 hS;refine vU.step (m:=[lj u (jq l r)]) (k:=1) (by simp) (fun x hx=>?_) (Int.le_refl _) ad aa;have:x=lj u (jq l r):=by simpa using hx
  subst this
  exact .inr (.inr (.inl ⟨by cases u<;>simp[lj],rfl,uS hS r F.1⟩))
 | .ret rest,d,l,V,T,n,c,h,hS=>by
  have F:ej G d V T rest:=by cases d<;>exact h
  have aa:=dQ rest d _ _ _ n (c++[lX]) F hS;refine vU.step (m:=[lX]) (k:=1) (by simp) (fun x hx=>?_) (Int.le_refl _) ad aa;have:x=lX:=by simpa using hx
  subst this
  exact .inr (.inr (.inr (.inr (.inr ⟨rfl,rfl⟩))))
 | .ite e th el rest,0,l,V,T,n,c,h,hS=>h.elim
 | .fj e th rest,0,l,V,T,n,c,h,hS=>h.elim
 | .ite e th el rest,d+1,l,V,T,n,c,h,hS=>by
  have i1:=dQ th d l V T n (c++[hP (bt l e) 0]) h.2.1 hS;have av:=gW hS 2 e h.1;unfold b2;simp only[];generalize b2 th l n (c++[hP (bt l e) 0])=p at *;obtain⟨⟨s1,b7,hJ,bF⟩,a9,cA⟩:=i1;obtain⟨a2,n1⟩:=p;simp only[] at *;have o:a2=c++hP (bt l e) 0::s1:=by rw[b7];simp
  cases hn:el.isNil with
  | true=>
   simp only[if_true];have a:et a2 c.length a2.length=c++hP (bt l e) a2.length::s1:=by
    generalize (a2.length:Int)=t;rw[o];exact nc c _ s1 t
   rw[a];have aT:=dQ rest (d+1) l V T n1 (c++hP (bt l e) a2.length::s1) h.2.2.2 (hS.mono a9);have hlen:a2.length=c.length+s1.length+1:=by rw[o];simp;omega
   have:=vU.step (k:=th.num+el.num+1) (n:=n) (m:=hP (bt l e) a2.length::s1) (by simp;omega) (fun x hx=>?_) a9 ad aT
   ·rw[show (aj.ite e th el rest).num=rest.num+(th.num+el.num+1) by simp only[aj.num];omega];exact this
   ·rcases Gt.1 hx with rfl|hx
    ·exact .inr (.inr (.inr (.inl ⟨rfl,rfl,⟨_,rfl,av.mono a9⟩,by show (0:Int)≤(a2.length:Int);omega,by show (a2.length:Int)≤_;rw[hlen];simp;omega⟩)))
    ·exact(bF x hx).mono (Int.le_refl _) (by rw[hlen];simp;omega)
  | false=>
   simp only[GL,if_false];have a:et (a2++[ds 0]) c.length (a2.length+1:Nat)=c++hP (bt l e) (a2.length+1:Nat)::(s1++[ds 0]):=by
    generalize ((a2.length+1:Nat):Int)=t;rw[o,Gq,Gs];exact nc c _ _ t
   have hlen:a2.length=c.length+s1.length+1:=by rw[o];simp;omega
   rw[a];have dF:=dQ el d l V T n1 (c++hP (bt l e) (a2.length+1:Nat)::(s1++[ds 0])) h.2.2.1 (hS.mono a9);generalize b2 el l n1 (c++hP (bt l e) (a2.length+1:Nat)::(s1++[ds 0]))=k at *;obtain⟨⟨s2,bK,bR,az⟩,cw,ch⟩:=dF;obtain⟨cm,bl⟩:=k;simp only[] at *;have q:cm=(c++hP (bt l e) (a2.length+1:Nat)::s1)++ds 0::s2:=by rw[bK];simp
   have w:et cm a2.length cm.length=(c++hP (bt l e) (a2.length+1:Nat)::s1)++ds cm.length::s2:=by
    have cd:a2.length=(c++hP (bt l e) (a2.length+1:Nat)::s1).length:=by rw[hlen];simp;omega
    generalize (cm.length:Int)=t;rw[q,congrArg (et _) cd];exact nc _ _ s2 t
   have f:cm.length=c.length+s1.length+s2.length+2:=by rw[q];simp;omega
   rw[w,Gq,Gs];have aT:=dQ rest (d+1) l V T bl (c++hP (bt l e) (a2.length+1:Nat)::(s1++ds cm.length::s2)) h.2.2.2 (hS.mono ad);have:=vU.step (k:=th.num+el.num+1) (n:=n) (m:=hP (bt l e) (a2.length+1:Nat)::(s1++ds cm.length::s2)) (by simp;omega) (fun x hx=>?_) ad ad aT
   ·rw[show (aj.ite e th el rest).num=rest.num+(th.num+el.num+1) by simp only[aj.num];omega];exact this
   ·rcases Gt.1 hx with rfl|hx
    ·exact .inr (.inr (.inr (.inl ⟨rfl,rfl,⟨_,rfl,av.mono ad⟩,by show (0:Int)≤((a2.length+1:Nat):Int);omega,by show ((a2.length+1:Nat):Int)≤_;rw[hlen];simp;omega⟩)))
    ·rcases Gk.1 hx with hx|hx
     ·exact(bF x hx).mono ad (by rw[hlen];simp;omega)
     ·rcases Gt.1 hx with rfl|hx
      ·exact .inr (.inr (.inr (.inr (.inl ⟨rfl,rfl,by show (0:Int)≤(cm.length:Int);omega,by show (cm.length:Int)≤_;rw[f];simp;omega⟩))))
      ·exact(az x hx).mono (Int.le_refl _) (by rw[f];simp;omega)
 | .fj e th rest,d+1,l,V,T,n,c,h,hS=>by
  have i1:=dQ th d l V T n (c++[hP (bt l e) 0]) h.2.1 hS;have av:=gW hS 2 e h.1;unfold b2;simp only[];generalize b2 th l n (c++[hP (bt l e) 0])=p at *;obtain⟨⟨s1,b7,hJ,bF⟩,a9,cA⟩:=i1;obtain⟨a2,n1⟩:=p;simp only[] at *;have o:a2=c++hP (bt l e) 0::s1:=by rw[b7];simp
  have hlen:a2.length=c.length+s1.length+1:=by rw[o];simp;omega
  have a:et (a2++[ds c.length]) c.length (a2.length+1:Nat)=c++hP (bt l e) (a2.length+1:Nat)::(s1++[ds c.length]):=by
   generalize ((a2.length+1:Nat):Int)=t;rw[o,Gq,Gs];exact nc c _ _ t
  rw[a];have aT:=dQ rest (d+1) l V T n1 (c++hP (bt l e) (a2.length+1:Nat)::(s1++[ds c.length])) h.2.2 (hS.mono a9);have:=vU.step (k:=th.num+1) (n:=n) (m:=hP (bt l e) (a2.length+1:Nat)::(s1++[ds c.length])) (by simp;omega) (fun x hx=>?_) a9 ad aT
  ·rw[show (aj.fj e th rest).num=rest.num+(th.num+1) by simp only[aj.num];omega];exact this
  ·rcases Gt.1 hx with rfl|hx
   ·exact .inr (.inr (.inr (.inl ⟨rfl,rfl,⟨_,rfl,av.mono a9⟩,by show (0:Int)≤((a2.length+1:Nat):Int);omega,by show ((a2.length+1:Nat):Int)≤_;rw[hlen];simp;omega⟩)))
   ·rcases Gk.1 hx with hx|hx
    ·exact(bF x hx).mono (Int.le_refl _) (by rw[hlen];simp;omega)
    ·have:x=ds c.length:=by simpa using hx
     subst this;exact .inr (.inr (.inr (.inr (.inl ⟨rfl,rfl,by show (0:Int)≤(c.length:Int);omega,by show (c.length:Int)≤_;simp;omega⟩))))
theorem j1{l:List dw}(hn:(l.map (·.name)).Nodup)(he:e∈l):dh l e.name=some e:=by
 induction l with
 | nil=>simp at he
 | cons x l aa=>
  simp only[Gh,List.nodup_cons] at hn;unfold dh at *;rcases Gt.1 he with rfl|he
  ·simp
  ·rw[List.find?_cons_of_neg,aa hn.2 he];simp only[GK];intro hx;exact hn.1 (by rw[hx];exact GD.2 ⟨e,he,rfl⟩)
theorem mm{α:Type}(f:α→ByteArray)(k:Int):∀(l:List α) (i:Nat),(hr f k l i).map (·.name)=l.map f
 | [],_=>rfl
 | x::l,i=>by simp only[hr,Gh,mm f k l (i+1)]
theorem g1{α:Type}(f:α→ByteArray)(k:Int):∀(l:List α) (i j:Nat) (x:α),l[j]?=some x→⟨f x,k,((i+j:Nat):Int)⟩∈hr f k l i
 | [],i,j,x,h=>by simp at h
 | y::l,i,0,x,h=>by
  simp only[List.getElem?_cons_zero,GI] at h;subst h
  simp[hr]
 | y::l,i,j+1,x,h=>by
  simp only[List.getElem?_cons_succ] at h;have:=g1 f k l (i+1) j x h;rw[show i+1+j=i+(j+1) by omega] at this;rw[hr];exact List.mem_cons_of_mem _ this
theorem eZ:∀(ps:List (ByteArray×Bool)) (i k:Int),(dC ps i k).map (·.name)=ps.map (·.1)
 | [],_,_=>rfl
 | (s,true)::l,i,k=>by simp only[dC,Gh,eZ l]
 | (s,false)::l,i,k=>by simp only[dC,Gh,eZ l]
theorem fU(s:ByteArray)(b:Bool)(ps:List (ByteArray×Bool)):bX ((s,b)::ps)=bX ps+(if b then 0 else 1)∧bI ((s,b)::ps)=bI ps+(if b then 1 else 0):=by
 cases b<;>simp[bX,bI]
theorem hE(ps:List (ByteArray×Bool)):0≤bX ps∧0≤bI ps:=⟨Int.natCast_nonneg _,Int.natCast_nonneg _⟩
theorem l1:∀(ps:List (ByteArray×Bool)) (i k:Int) (s:ByteArray),(s,true)∈ps→∃e∈dC ps i k,e.name=s∧e.kind=5∧k≤e.n∧e.n<k+bI ps
 | [],_,_,s,h=>by simp at h
 | (x,b)::l,i,k,s,h0=>by
  have hc:=(fU x b l).2;have a8:=(hE l).2;rcases Gt.1 h0 with h|h
  ·injection h with ac J;subst ac J;rw[hc];exact⟨⟨s,5,k⟩,by simp[dC],rfl,rfl,Int.le_refl _,by simp;omega⟩
  ·cases b with
   | true=>
    obtain⟨e,he,ac,J,aS,bo⟩:=l1 l i (k+1) s h;rw[hc]
    exact⟨e,by simp[dC,he],ac,J,ad,by simp;omega⟩
   | false=>
    obtain⟨e,he,ac,J,aS,bo⟩:=l1 l (i+1) k s h;rw[hc];exact⟨e,by simp[dC,he],ac,J,ad,by simp;omega⟩
theorem ov:∀(ps:List (ByteArray×Bool)) (i k:Int) (s:ByteArray),(s,false)∈ps→∃e∈dC ps i k,e.name=s∧e.kind=4∧i≤e.n∧e.n<i+bX ps
 | [],_,_,s,h=>by simp at h
 | (x,b)::l,i,k,s,h0=>by
  have hc:=(fU x b l).1;have a8:=(hE l).1;rcases Gt.1 h0 with h|h
  ·injection h with ac J;subst ac J;rw[hc];exact⟨⟨s,4,i⟩,by simp[dC],rfl,rfl,Int.le_refl _,by simp;omega⟩
  ·cases b with
   | true=>
    obtain⟨e,he,ac,J,aS,bo⟩:=ov l i (k+1) s h;rw[hc]
    exact⟨e,by simp[dC,he],ac,J,ad,by simp;omega⟩
   | false=>
    obtain⟨e,he,ac,J,aS,bo⟩:=ov l (i+1) k s h;rw[hc];exact⟨e,by simp[dC,he],ac,J,ad,by simp;omega⟩
theorem e5(p:bC):(bf p).map (·.name)=a5 p:=by
 simp only[bf,a5,eD,Gi,mm]
def bs(u:aF):gu:=⟨u.globals.length,u.af,u.procs.map fun p=>(p.ints,p.av)⟩
structure oy(U:gu)(p:c5):Prop where
 ints:0≤p.ints∧p.ints≤p.locals∧p.locals≤200
 av:0≤p.av∧p.av≤100
 code:∃s,p.code=s++[lX]∧s.length≤200∧∀x∈s,gS U p.locals p.av s.length x
structure cU(u:aF):Prop where
 procs:∀p∈u.procs,oy (bs u) p
 AU:u.procs.length≤16
 main:∃p,0≤u.main∧u.procs[u.main.toNat]?=some p∧p.ints=0∧p.av=0
 ti:u.af.length≤12
 eI:∀m∈u.af,0≤m.size∧m.size≤64
 mB:u.globals.length≤16
 globals:∀g∈u.globals,-9223372036854775807≤g∧g≤9223372036854775807
theorem mG(p:bC):bs (eH p)=⟨p.globals.length,p.af,p.funcs.map fun f=>(bX f.params,bI f.params)⟩:=by
 simp only[bs,eH,Gf,List.map_map];rfl
theorem rL(hp:mU p)(aw:f∈p.funcs):
  Sc (bs (eH p)) (gL p f) (bf p++dC f.params 0 0) (eD p++cc f.params) (a5 p++f.params.map (·.1)) (bX f.params) (bI f.params):=by
 have hF:=hp.funcs f aw;have cl:((bf p++dC f.params 0 0).map (·.name)).Nodup:=by
  rw[Gi,e5,eZ];exact hF.fresh
 have ay:=fun e (he:e∈bf p++dC f.params 0 0)=>j1 cl he;rw[mG];constructor
 ·intro s hs;rcases Gk.1 hs with hs|hs
  ·obtain⟨g,aM,rfl⟩:=GD.1 hs;obtain⟨i,aJ⟩:=List.getElem?_of_mem aM;have:=ay _ (Gk.2 (.inl (by unfold bf;exact Gk.2 (.inl (Gk.2 (.inl (g1 (·.1) 1 p.globals 0 i g aJ)))))));refine⟨_,this,.inl ⟨rfl,by show (0:Int)≤((0+i:Nat):Int);omega,?_⟩⟩;have:=(List.getElem?_eq_some_iff.1 aJ).1;show ((0+i:Nat):Int)<(p.globals.length:Int)
   omega
  ·obtain⟨⟨q,b⟩,bu,rfl⟩:=GD.1 hs;obtain⟨a3,bv⟩:=List.mem_filter.1 bu;have O:b=false:=by simpa using bv
   subst O;obtain⟨e,he,ac,J,aS,bo⟩:=ov f.params 0 0 q a3;have:=ay e (Gk.2 (.inr he));rw[ac] at this;exact⟨e,this,.inr ⟨J,aS,ad⟩⟩
 ·intro m hm;obtain⟨i,aJ⟩:=List.getElem?_of_mem hm;have:=ay _ (Gk.2 (.inl (by unfold bf;exact Gk.2 (.inl (Gk.2 (.inr (g1 (·.name) 2 p.af 0 i m aJ)))))));refine⟨_,this,rfl,by show (0:Int)≤((0+i:Nat):Int);omega,?_⟩;show p.af[(((0+i:Nat):Int)).toNat]?=some m
  rw[Gy,Gv];exact aJ
 ·intro s hs;obtain⟨e,he,ac,J,aS,bo⟩:=l1 f.params 0 0 s hs;have:=ay e (Gk.2 (.inr he));rw[ac] at this;exact⟨e,this,J,aS,ad⟩
 ·intro s ps hs;obtain⟨g,aM,bZ⟩:=GD.1 hs;injection bZ with cg an;subst cg an;obtain⟨i,aJ⟩:=List.getElem?_of_mem aM;have:=ay _ (Gk.2 (.inl (by unfold bf;exact Gk.2 (.inr (g1 (·.name) 3 p.funcs 0 i g aJ)))));refine⟨_,this,rfl,by show (0:Int)≤((0+i:Nat):Int);omega,?_⟩;show (p.funcs.map fun f=>(bX f.params,bI f.params))[(((0+i:Nat):Int)).toNat]?=_
  rw[Gy,Gv,List.getElem?_map,aJ];rfl
 ·intro e he;have:e.name∈(bf p++dC f.params 0 0).map (·.name):=GD.2 ⟨e,he,rfl⟩;rw[Gi,e5,eZ] at this;exact this
 ·exact(hE _).1
theorem iq{α:Type}(g:α→Nat){l:List α}{x:α}(h:x∈l):g x≤(l.map g).sum:=by
 induction l with
 | nil=>simp at h
 | cons y l aa=>
  simp only[Gh,List.sum_cons];rcases Gt.1 h with rfl|h
  ·omega
  ·have:=aa h;omega
theorem ll(ps:List (ByteArray×Bool)):bX ps≤ps.length∧bI ps≤ps.length:=by
 unfold bX bI;have ac:=List.length_filter_le (fun q:ByteArray×Bool=>!q.2) ps;have J:=List.length_filter_le (fun q:ByteArray×Bool=>q.2) ps;omega
theorem Cb(hp:mU p)(aw:f∈p.funcs):oy (bs (eH p)) (dR p f):=by
 have hF:=hp.funcs f aw;obtain⟨⟨s,hs,hl,ap⟩,hle,a3⟩:=dQ f.body 4 _ _ _ (bX f.params) [] hF.body (rL hp aw);have K:f.body.num≤64:=Gu (iq (fun f:aG=>f.body.num) aw) hp.ir;have E:=hF.ir;have hn:=ll f.params;have a8:=hE f.params;refine⟨⟨a8.1,hle,?_⟩,⟨a8.2,?_⟩,?_⟩
 ·show (b2 f.body (bf p++dC f.params 0 0) (bX f.params) []).2≤200
  omega
 ·show bI f.params≤100
  omega
 ·refine⟨(b2 f.body (bf p++dC f.params 0 0) (bX f.params) []).1,rfl,?_,?_⟩
  ·rw[hs];simp;omega
  ·intro x hx;have a:x∈s:=by rw[hs] at hx;simpa using hx
   exact ap x a
theorem uJ(hp:mU p):cU (eH p):=by
 refine⟨fun q bu=>?_,?_,?_,hp.ti,fun m hm=>⟨(hp.eI m hm).1,(hp.eI m hm).2.1⟩,?_,fun g aM=>?_⟩
 ·obtain⟨f,aw,rfl⟩:=GD.1 bu;exact Cb hp aw
 ·show (p.funcs.map (dR p)).length≤16
  rw[Gf];exact hp.AT
 ·obtain⟨i,f,aJ,hn,bi⟩:=hp.main;have cl:((bf p).map (·.name)).Nodup:=by rw[e5];exact hp.nodup
  have he:=j1 cl (show _∈bf p by unfold bf;exact Gk.2 (.inr (g1 (·.name) 3 p.funcs 0 i f aJ)));have hm:(eH p).main=(i:Int):=by
   show ij (bf p) hB=(i:Int)
   simp only[hn,Gv] at he;unfold ij;rw[show hB=⟨#[109,97,105,110]⟩ from rfl,he]
  refine⟨dR p f,by rw[hm];omega,?_,?_,?_⟩
  ·rw[hm,Gy];show (p.funcs.map (dR p))[i]?=_
   rw[List.getElem?_map,aJ];rfl
  ·show bX f.params=0
   rw[bi];rfl
  ·show bI f.params=0
   rw[bi];rfl
 ·show (p.globals.map (·.2)).length≤16
  rw[Gf];exact hp.mB
 ·obtain⟨k,ap,rfl⟩:=GD.1 aM;exact hp.inits k ap
end Go.Proofs.YtjhgbdckgkppnaaGreat

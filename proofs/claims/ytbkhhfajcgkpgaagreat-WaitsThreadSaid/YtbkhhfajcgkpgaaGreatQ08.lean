/- Part 8 of the proof. No condition of its own. -/
import Derived.Test.YtbkhhfajcgkpgaaGreatQ07
namespace Go.Proofs.YtbkhhfajcgkpgaaGreat
open Go.RowKit Go.Proofs.Tryz
set_option maxRecDepth 1000000
set_option maxHeartbeats 25600000
set_option linter.unusedVariables false
variable{s:ByteArray}{f:az}{p:bB}
structure dz where
 name:ByteArray
 kind:Int
 n:Int
def dk(l:List dz)(s:ByteArray):Option dz:=l.find? fun e=>decide (e.name=s)
def bx(l:List dz):VE→VE
 | .num n=>.num n
 | .gy s=>match dk l s with
  | some e=>if e.kind=1 then .ia e.n else .loc e.n
  | none=>.loc 0
 | .loc k=>.loc k
 | .ia k=>.ia k
 | .un op x=>.un op (bx l x)
 | .bin op x y=>.bin op (bx l x) (bx l y)
def lT(l:List dz)(r:eF):bC:=
 match dk l r.name with
 | some v=>⟨v.kind == 5,v.n,r.idx.map (bx l)⟩
 | none=>⟨false,0,r.idx.map (bx l)⟩
def iY(l:List dz)(s:ByteArray):Int:=match dk l s with
 | some v=>v.n
 | none=>0
def tt(l:List dz)(s:ByteArray):Int:=match dk l s with
 | some v=>v.kind
 | none=>0
def bF(l:List dz):List da→List VE
 | []=>[]
 | .ex e::aS=>bx l e::bF l aS
 | .mx _::aS=>bF l aS
def cm(l:List dz):List da→List bC
 | []=>[]
 | .ex _::aS=>cm l aS
 | .mx r::aS=>lT l r::cm l aS
def j0:bC:=⟨false,0,none⟩
def k8(t:Int)(g:Bool)(e:VE):ay:=⟨1,t,g,some e,j0,[],[]⟩
def ld(g:Bool)(t:Int)(is:List VE)(ps:List bC):ay:=⟨if g then 3 else 2,t,false,none,j0,is,ps⟩
def pz(u:Bool)(p:bC):ay:=⟨if u then 5 else 4,0,false,none,p,[],[]⟩
def j8(e:VE)(t:Int):ay:=⟨6,t,false,some e,j0,[],[]⟩
def dS(t:Int):ay:=⟨7,t,false,none,j0,[],[]⟩
def mX:ay:=⟨8,0,false,none,j0,[],[]⟩
def fG(c:List ay)(b:Nat)(t:Int):List ay:=c.modify b fun x=>{x with target:=t}
def dw:al→List dz→Int→List ay→List ay×Int
 | .nil,_,n,c=>(c,n)
 | .set true s e rest,l,n,c=>dw rest (l++[⟨s,4,n⟩]) (n+1) (c++[k8 n false (bx l e)])
 | .set false s e rest,l,n,c=>dw rest l n (c++[k8 (iY l s) (tt l s == 1) (bx l e)])
 | .call g s aS rest,l,n,c=>dw rest l n (c++[ld g (iY l s) (bF l aS) (cm l aS)])
 | .lock u r rest,l,n,c=>dw rest l n (c++[pz u (lT l r)])
 | .ite e th el rest,l,n,c=>
  let p:=dw th l n (c++[j8 (bx l e) 0])
  let q:=if el.isNil then (fG p.1 c.length p.1.length,p.2) else
   let k:=dw el l p.2 (fG (p.1++[dS 0]) c.length (p.1.length+1:Nat))
   (fG k.1 p.1.length k.1.length,k.2)
  dw rest l q.2 q.1
 | .gb e th rest,l,n,c=>
  let p:=dw th l n (c++[j8 (bx l e) 0])
  dw rest l p.2 (fG (p.1++[dS c.length]) c.length (p.1.length+1:Nat))
 | .ret rest,l,n,c=>dw rest l n (c++[mX])
def h9{α:Type}(f:α→ByteArray)(k:Int):List α→Nat→List dz
 | [],_=>[]
 | x::l,i=>⟨f x,k,i⟩::h9 f k l (i+1)
def ba(p:bB):List dz:=h9 (·.1) 1 p.globals 0++h9 (·.name) 2 p.ae 0++h9 (·.name) 3 p.funcs 0
def dG:List (ByteArray×Bool)→Int→Int→List dz
 | [],_,_=>[]
 | (s,true)::l,i,k=>⟨s,5,k⟩::dG l i (k+1)
 | (s,false)::l,i,k=>⟨s,4,i⟩::dG l (i+1) k
def bU(ps:List (ByteArray×Bool)):Int:=((ps.filter fun q=>!q.2).length:Nat)
def bD(ps:List (ByteArray×Bool)):Int:=((ps.filter fun q=>q.2).length:Nat)
def dY(p:bB)(f:az):c6:=
 let q:=dw f.body (ba p++dG f.params 0 0) (bU f.params) []
 ⟨f.name,bU f.params,bD f.params,q.2,q.1++[mX]⟩
def ij:ByteArray:=⟨#[109,97,105,110]⟩
def fU(p:bB):av:=⟨p.globals.map (·.2),p.ae,p.funcs.map (dY p),iY (ba p) ij⟩
def VE.lit:VE→Prop
 | .num n=>0≤n∧n≤9223372036854775807
 | .un _ x=>x.lit
 | .bin _ x y=>x.lit∧y.lit
 | _=>True
structure g4 where
 ng:Nat
 ae:List bA
 sig:List (Int×Int)
def fO(U:g4)(nl:Int)(e:VE):Prop:=e.ok U.ng nl.toNat∧e.lit
def cJ(U:g4)(nl nk:Int)(p:bC):Prop:=
 (p.param=true∧0≤p.index∧p.index<nk∧p.at_=none)∨
 (p.param=false∧∃m,0≤p.index∧U.ae[p.index.toNat]?=some m∧(0<m.size→∃e,p.at_=some e∧fO U nl e)∧(¬0<m.size→p.at_=none))
def hy(U:g4)(nl nk:Int)(len:Nat)(x:ay):Prop:=
 (x.op=1∧(∃e,x.expr=some e∧fO U nl e)∧0≤x.target∧(x.c8=true→x.target<U.ng)∧(x.c8=false→x.target<nl))∨
 ((x.op=2∨x.op=3)∧x.c8=false∧∃s,0≤x.target∧U.sig[x.target.toNat]?=some s∧(x.ints.length:Int)=s.1∧(x.places.length:Int)=s.2∧(∀e∈x.ints,fO U nl e)∧∀p∈x.places,cJ U nl nk p)∨
 ((x.op=4∨x.op=5)∧x.c8=false∧cJ U nl nk x.place)∨
 (x.op=6∧x.c8=false∧(∃e,x.expr=some e∧fO U nl e)∧0≤x.target∧x.target≤len)∨
 (x.op=7∧x.c8=false∧0≤x.target∧x.target≤len)∨
 (x.op=8∧x.c8=false)
structure Sc(U:g4)(G:Env)(l:List dz)(V T:Ks)(n nk:Int):Prop where
 vars:∀s∈V,∃e,dk l s=some e∧((e.kind=1∧0≤e.n∧e.n<U.ng)∨(e.kind=4∧0≤e.n∧e.n<n))
 HJ:∀m∈G.ae,∃e,dk l m.name=some e∧e.kind=2∧0≤e.n∧U.ae[e.n.toNat]?=some m
 C8:∀s,(s,true)∈G.params→∃e,dk l s=some e∧e.kind=5∧0≤e.n∧e.n<nk
 fns:∀s ps,(s,ps)∈G.funcs→∃e,dk l s=some e∧e.kind=3∧0≤e.n∧U.sig[e.n.toNat]?=some (bU ps,bD ps)
 taken:∀e∈l,e.name∈T
 n0:0≤n
variable{e:dz}
theorem jn{l:List dz}{x:dz}(h:dk l s=some e):dk (l++[x]) s=some e:=by
 unfold dk at *;rw[List.find?_append,h];rfl
theorem xP{l:List dz}{T:Ks}(ht:∀e∈l,e.name∈T)(hs:s∉T)(k n:Int):dk (l++[⟨s,k,n⟩]) s=some ⟨s,k,n⟩:=by
 unfold dk;rw[List.find?_append,List.find?_eq_none.2 (fun e he=>by
  simp only[Kk];rintro rfl;exact hs (ht e he))]
 simp
section
variable {U:g4} {G:Env} {l:List dz} {V T:Ks} {n aZ nk:Int}
theorem Sc.mono(h:Sc U G l V T n nk)(hn:n≤aZ):Sc U G l V T aZ nk:=
 ⟨fun s hs=>by obtain⟨e,he,aj⟩:=h.vars s hs;exact⟨e,he,aj.imp id fun ⟨a,b,c⟩=>⟨a,b,ab⟩⟩,h.HJ,h.C8,h.fns,h.taken,by have:=h.n0;omega⟩
theorem Sc.add(h:Sc U G l V T n nk)(hs:s∉T):Sc U G (l++[⟨s,4,n⟩]) (V++[s]) (T++[s]) (n+1) nk where
 vars:=fun x hx=>by
  rcases JZ.1 hx with hx|hx
  ·obtain⟨e,he,aj⟩:=h.vars x hx;exact⟨e,jn he,aj.imp id fun ⟨a,b,c⟩=>⟨a,b,ab⟩⟩
  ·have:x=s:=by simpa using hx
   subst this;exact⟨_,xP h.taken hs 4 n,.inr ⟨rfl,h.n0,by show n<n+1;omega⟩⟩
 HJ:=fun m hm=>by obtain⟨e,he,r⟩:=h.HJ m hm;exact⟨e,jn he,r⟩
 C8:=fun x hx=>by obtain⟨e,he,r⟩:=h.C8 x hx;exact⟨e,jn he,r⟩
 fns:=fun x ps hx=>by obtain⟨e,he,r⟩:=h.fns x ps hx;exact⟨e,jn he,r⟩
 taken:=fun e he=>by
  rcases JZ.1 he with he|he
  ·exact JZ.2 (.inl (h.taken e he))
  ·have:e=⟨s,4,n⟩:=by simpa using he
   subst this;simp
 n0:=by have:=h.n0;omega
end
theorem ow{ng nl a:Nat}(h:nl≤a):∀x:VE,x.ok ng nl→x.ok ng a
 | .num _,_=>trivial
 | .gy _,q=>q.elim
 | .loc k,q=>⟨q.1,by have:=q.2;omega⟩
 | .ia k,q=>q
 | .un _ x,q=>⟨q.1,ow h x q.2⟩
 | .bin _ x y,q=>⟨q.1,ow h x q.2.1,ow h y q.2.2⟩
theorem fO.mono{U:g4}{n aZ:Int}{e:VE}(h:fO U n e)(hn:n≤aZ):fO U aZ e:=⟨ow (nl:=n.toNat) (a:=aZ.toNat) ab e h.1,h.2⟩
theorem cJ.mono{U:g4}{n aZ nk:Int}{p:bC}(h:cJ U n nk p)(hn:n≤aZ):cJ U aZ nk p:=
 h.imp id fun ⟨a,m,b,c,d,e⟩=>⟨a,m,b,c,fun hs=>by obtain⟨x,hx,aj⟩:=d hs;exact⟨x,hx,aj.mono hn⟩,e⟩
theorem hy.mono{U:g4}{n aZ nk:Int}{k F:Nat}{x:ay}(h:hy U n nk k x)(hn:n≤aZ)(aj:k≤F):hy U aZ nk F x:=by
 rcases h with⟨ae,⟨e,he,a8⟩,aC,aT,a9⟩|⟨ae,aJ,s,aC,aT,a9,cl,m,g⟩|⟨ae,aJ,aC⟩|⟨ae,aJ,⟨e,he,a8⟩,aC,aT⟩|⟨ae,aJ,aC,aT⟩|h
 ·exact .inl ⟨ae,⟨e,he,a8.mono hn⟩,aC,aT,fun h=>by have:=a9 h;omega⟩
 ·exact .inr (.inl ⟨ae,aJ,s,aC,aT,a9,cl,fun e he=>(m e he).mono hn,fun p hp=>(g p hp).mono hn⟩)
 ·exact .inr (.inr (.inl ⟨ae,aJ,aC.mono hn⟩))
 ·exact .inr (.inr (.inr (.inl ⟨ae,aJ,⟨e,he,a8.mono hn⟩,aC,ab⟩)))
 ·exact .inr (.inr (.inr (.inr (.inl ⟨ae,aJ,aC,ab⟩))))
 ·exact .inr (.inr (.inr (.inr (.inr h))))
section
variable {U:g4} {G:Env} {l:List dz} {V T:Ks} {n nk:Int} (hS:Sc U G l V T n nk)
include hS
theorem hB:∀(d:Nat) (x:VE),x.src V d→fO U n (bx l x)
 | d,.num k,h=>by
  have q:0≤k∧k<4611686018427387904:=by cases d<;>exact h
  exact⟨trivial,by show 0≤k∧k≤9223372036854775807;omega⟩
 | d,.gy s,h=>by
  have q:s∈V:=by cases d<;>exact h
  obtain⟨e,he,aj⟩:=hS.vars s q;have hn:=hS.n0;unfold bx;simp only[he];rcases aj with⟨ae,aC,aT⟩|⟨ae,aC,aT⟩
  ·rw[if_pos ae];exact⟨⟨aC,aT⟩,trivial⟩
  ·rw[if_neg ab]
   exact⟨⟨aC,ab⟩,trivial⟩
 | d,.loc _,h=>by cases d<;>exact h.elim
 | d,.ia _,h=>by cases d<;>exact h.elim
 | 0,.un _ _,h=>h.elim
 | 0,.bin _ _ _,h=>h.elim
 | d+1,.un op x,h=>by
  have ao:=hB d x h.2
  exact⟨⟨h.1,ao.1⟩,ao.2⟩
 | d+1,.bin op x y,h=>by
  have i:=hB d x h.2.1;have c:=hB d y h.2.2;exact⟨⟨h.1,i.1,c.1⟩,i.2,c.2⟩
theorem xn(r:eF)(h:rH G V r):cJ U n nk (lT l r):=by
 unfold lT;rcases h with⟨m,hm,hn,ae,aC⟩|⟨hp,al⟩
 ·obtain⟨e,he,aj,h0,hu⟩:=hS.HJ m hm;rw[←hn];simp only[he];refine .inr ⟨by simp[aj],m,h0,hu,fun hs=>?_,fun hs=>by simp[aC hs]⟩;obtain⟨x,hx,av⟩:=ae hs;exact⟨bx l x,by simp[hx],hB hS 2 x av⟩
 ·obtain⟨e,he,aj,h0,aw⟩:=hS.C8 _ hp;simp only[he];exact .inl ⟨by simp[aj],h0,aw,by simp[al]⟩
theorem r4:∀(ps:List (ByteArray×Bool)) (aS:List da),iz G V ps aS→
  ((bF l aS).length:Int)=bU ps∧((cm l aS).length:Int)=bD ps∧(∀e∈bF l aS,fO U n e)∧∀p∈cm l aS,cJ U n nk p
 | [],[],_=>⟨rfl,rfl,fun e h=>by simp[bF] at h,fun e h=>by simp[cm] at h⟩
 | (s,b)::ps,.mx r::aS,h=>by
  obtain⟨ae,aC,aT,a9⟩:=r4 ps aS h.2;have O:b=true:=h.1.1;subst O;refine⟨?_,?_,aT,?_⟩
  ·simpa[bF,bU] using ae
  ·simp only[cm,J3,bD] at aC ⊢;simp;omega
  ·intro p hp;simp only[cm,J6] at hp;rcases hp with rfl|hp
   ·exact xn hS r h.1.2
   ·exact a9 p hp
 | (s,b)::ps,.ex e::aS,h=>by
  obtain⟨ae,aC,aT,a9⟩:=r4 ps aS h.2;have O:b=false:=h.1.1;subst O;refine⟨?_,?_,?_,a9⟩
  ·simp only[bF,J3,bU] at ae ⊢;simp;omega
  ·simpa[cm,bD] using aC
  ·intro p hp;simp only[bF,J6] at hp;rcases hp with rfl|hp
   ·exact hB hS 2 e h.1.2
   ·exact aT p hp
 | [],_::_,h=>h.elim
 | _::_,[],h=>h.elim
end
theorem oC(a:List ay)(x:ay)(b:List ay)(t:Int):fG (a++x::b) a.length t=a++{x with target:=t}::b:=by
 unfold fG
 induction a with
 | nil=>rfl
 | cons y a ao=>simp only[J5,J3,List.modify_succ_cons,ao]
structure yx(U:g4)(nk n:Int)(c:List ay)(num:Nat)(r:List ay×Int):Prop where
 ex:∃s,r.1=c++s∧s.length≤2*num∧∀x∈s,hy U r.2 nk r.1.length x
 le:n≤r.2
 ge:r.2≤n+num
theorem yx.step{U:g4}{nk n aZ:Int}{c m:List ay}{k num:Nat}{r:List ay×Int}(hm:m.length≤2*k)(b9:∀x∈m,hy U aZ nk (c++m).length x)(hn:n≤aZ)(co:aZ≤n+k)(h:yx U nk aZ (c++m) num r):yx U nk n c (num+k) r:=by
 obtain⟨⟨s,hs,hl,aj⟩,hle,ah⟩:=h;refine⟨⟨m++s,by rw[hs,J4],by simp;omega,fun x hx=>?_⟩,ab,ab⟩;rcases JZ.1 hx with hx|hx
 ·exact(b9 x hx).mono hle (by rw[hs];simp)
 ·exact aj x hx
theorem dH{U:g4}{G:Env}{nk:Int}:∀(b:al) (d:Nat) (l:List dz) (V T:Ks) (n:Int) (c:List ay),eN G d V T b→Sc U G l V T n nk→yx U nk n c b.num (dw b l n c)
 | .nil,d,l,V,T,n,c,_,_=>⟨⟨[],by simp[dw],by simp,fun x h=>by simp at h⟩,Int.le_refl _,by simp[dw,al.num]⟩
 | .set true s e rest,d,l,V,T,n,c,h,hS=>by
  have q:bp s.data.toList=true∧s∉T∧e.src V 2∧eN G d (V++[s]) (T++[s]) rest:=by cases d<;>exact h
  have ao:=dH rest d _ _ _ (n+1) (c++[k8 n false (bx l e)]) q.2.2.2 (hS.add q.2.1);refine yx.step (m:=[k8 n false (bx l e)]) (k:=1) (by simp) (fun x hx=>?_) ab ab ao;have:x=k8 n false (bx l e):=by simpa using hx
  subst this
  exact .inl ⟨rfl,⟨_,rfl,(hB hS 2 e q.2.2.1).mono ab⟩,hS.n0,(fun h=>by cases h),fun _=>by show n<n+1;omega⟩
 | .set false s e rest,d,l,V,T,n,c,h,hS=>by
  have q:s∈V∧e.src V 2∧eN G d V T rest:=by cases d<;>exact h
  have ao:=dH rest d _ _ _ n (c++[k8 (iY l s) (tt l s == 1) (bx l e)]) q.2.2 hS;refine yx.step (m:=[k8 (iY l s) (tt l s == 1) (bx l e)]) (k:=1) (by simp) (fun x hx=>?_) (Int.le_refl _) ab ao;have:x=k8 (iY l s) (tt l s == 1) (bx l e):=by simpa using hx
  subst this;obtain⟨v,bD,aj⟩:=hS.vars s q.1;have e1:iY l s=v.n:=by simp[iY,bD]
  have e2:tt l s=v.kind:=by simp[tt,bD]
  rw[e1,e2];refine .inl ⟨rfl,⟨_,rfl,hB hS 2 e q.2.1⟩,?_,fun aJ=>?_,fun aJ=>?_⟩
  ·show 0≤v.n;omega
  ·have i:v.kind=1:=by simpa[k8] using aJ
   show v.n<_
   omega
  ·have i:¬v.kind=1:=by simpa[k8] using aJ
   show v.n<n
   omega
 | .call g s aS rest,d,l,V,T,n,c,h,hS=>by
  have q:(∃ps,(s,ps)∈G.funcs∧iz G V ps aS)∧eN G d V T rest:=by cases d<;>exact h
  obtain⟨⟨ps,aD,has⟩,aU⟩:=q;have ao:=dH rest d _ _ _ n (c++[ld g (iY l s) (bF l aS) (cm l aS)]) aU hS;refine yx.step (m:=[ld g (iY l s) (bF l aS) (cm l aS)]) (k:=1) (by simp) (fun x hx=>?_) (Int.le_refl _) ab ao;have:x=ld g (iY l s) (bF l aS) (cm l aS):=by simpa using hx
  subst this;obtain⟨v,bD,_,h0,hu⟩:=hS.fns s ps aD;have e1:iY l s=v.n:=by simp[iY,bD]
  obtain⟨z,y,a3,a4⟩:=r4 hS ps aS has;rw[e1]
  exact .inr (.inl ⟨by cases g<;>simp[ld],rfl,_,h0,hu,z,y,a3,a4⟩)
 | .lock u r rest,d,l,V,T,n,c,h,hS=>by
  have q:rH G V r∧eN G d V T rest:=by cases d<;>exact h
  have ao:=dH rest d _ _ _ n (c++[pz u (lT l r)]) q.2 hS;refine yx.step (m:=[pz u (lT l r)]) (k:=1) (by simp) (fun x hx=>?_) (Int.le_refl _) ab ao;have:x=pz u (lT l r):=by simpa using hx
  subst this
  exact .inr (.inr (.inl ⟨by cases u<;>simp[pz],rfl,xn hS r q.1⟩))
 | .ret rest,d,l,V,T,n,c,h,hS=>by
  have q:eN G d V T rest:=by cases d<;>exact h
  have ao:=dH rest d _ _ _ n (c++[mX]) q hS;refine yx.step (m:=[mX]) (k:=1) (by simp) (fun x hx=>?_) (Int.le_refl _) ab ao;have:x=mX:=by simpa using hx
  subst this
  exact .inr (.inr (.inr (.inr (.inr ⟨rfl,rfl⟩))))
 | .ite e th el rest,0,l,V,T,n,c,h,hS=>h.elim
 | .gb e th rest,0,l,V,T,n,c,h,hS=>h.elim
 | .ite e th el rest,d+1,l,V,T,n,c,h,hS=>by
  have i1:=dH th d l V T n (c++[j8 (bx l e) 0]) h.2.1 hS;have aF:=hB hS 2 e h.1;unfold dw;simp only[];generalize dw th l n (c++[j8 (bx l e) 0])=p at *;obtain⟨⟨s1,b1,g7,cd⟩,bM,c6⟩:=i1;obtain⟨aT,n1⟩:=p;simp only[] at *;have a:aT=c++j8 (bx l e) 0::s1:=by rw[b1];simp
  cases hn:el.isNil with
  | true=>
   simp only[if_true];have aq:fG aT c.length aT.length=c++j8 (bx l e) aT.length::s1:=by
    generalize (aT.length:Int)=t;rw[a];exact oC c _ s1 t
   rw[aq];have i3:=dH rest (d+1) l V T n1 (c++j8 (bx l e) aT.length::s1) h.2.2.2 (hS.mono bM);have hlen:aT.length=c.length+s1.length+1:=by rw[a];simp;omega
   have:=yx.step (k:=th.num+el.num+1) (n:=n) (m:=j8 (bx l e) aT.length::s1) (by simp;omega) (fun x hx=>?_) bM ab i3
   ·rw[show (al.ite e th el rest).num=rest.num+(th.num+el.num+1) by simp only[al.num];omega];exact this
   ·rcases J6.1 hx with rfl|hx
    ·exact .inr (.inr (.inr (.inl ⟨rfl,rfl,⟨_,rfl,aF.mono bM⟩,by show (0:Int)≤(aT.length:Int);omega,by show (aT.length:Int)≤_;rw[hlen];simp;omega⟩)))
    ·exact(cd x hx).mono (Int.le_refl _) (by rw[hlen];simp;omega)
  | false=>
   simp only[Kl,if_false];have aq:fG (aT++[dS 0]) c.length (aT.length+1:Nat)=c++j8 (bx l e) (aT.length+1:Nat)::(s1++[dS 0]):=by
    generalize ((aT.length+1:Nat):Int)=t;rw[a,J4,J5];exact oC c _ _ t
   have hlen:aT.length=c.length+s1.length+1:=by rw[a];simp;omega
   rw[aq];have i2:=dH el d l V T n1 (c++j8 (bx l e) (aT.length+1:Nat)::(s1++[dS 0])) h.2.2.1 (hS.mono bM);generalize dw el l n1 (c++j8 (bx l e) (aT.length+1:Nat)::(s1++[dS 0]))=k at *;obtain⟨⟨s2,bz,am,cn⟩,fq,fp⟩:=i2;obtain⟨b5,n2⟩:=k;simp only[] at *;have j:b5=(c++j8 (bx l e) (aT.length+1:Nat)::s1)++dS 0::s2:=by rw[bz];simp
   have o:fG b5 aT.length b5.length=(c++j8 (bx l e) (aT.length+1:Nat)::s1)++dS b5.length::s2:=by
    have bb:aT.length=(c++j8 (bx l e) (aT.length+1:Nat)::s1).length:=by rw[hlen];simp;omega
    generalize (b5.length:Int)=t;rw[j,congrArg (fG _) bb];exact oC _ _ s2 t
   have f:b5.length=c.length+s1.length+s2.length+2:=by rw[j];simp;omega
   rw[o,J4,J5];have i3:=dH rest (d+1) l V T n2 (c++j8 (bx l e) (aT.length+1:Nat)::(s1++dS b5.length::s2)) h.2.2.2 (hS.mono ab);have:=yx.step (k:=th.num+el.num+1) (n:=n) (m:=j8 (bx l e) (aT.length+1:Nat)::(s1++dS b5.length::s2)) (by simp;omega) (fun x hx=>?_) ab ab i3
   ·rw[show (al.ite e th el rest).num=rest.num+(th.num+el.num+1) by simp only[al.num];omega];exact this
   ·rcases J6.1 hx with rfl|hx
    ·exact .inr (.inr (.inr (.inl ⟨rfl,rfl,⟨_,rfl,aF.mono ab⟩,by show (0:Int)≤((aT.length+1:Nat):Int);omega,by show ((aT.length+1:Nat):Int)≤_;rw[hlen];simp;omega⟩)))
    ·rcases JZ.1 hx with hx|hx
     ·exact(cd x hx).mono ab (by rw[hlen];simp;omega)
     ·rcases J6.1 hx with rfl|hx
      ·exact .inr (.inr (.inr (.inr (.inl ⟨rfl,rfl,by show (0:Int)≤(b5.length:Int);omega,by show (b5.length:Int)≤_;rw[f];simp;omega⟩))))
      ·exact(cn x hx).mono (Int.le_refl _) (by rw[f];simp;omega)
 | .gb e th rest,d+1,l,V,T,n,c,h,hS=>by
  have i1:=dH th d l V T n (c++[j8 (bx l e) 0]) h.2.1 hS;have aF:=hB hS 2 e h.1;unfold dw;simp only[];generalize dw th l n (c++[j8 (bx l e) 0])=p at *;obtain⟨⟨s1,b1,g7,cd⟩,bM,c6⟩:=i1;obtain⟨aT,n1⟩:=p;simp only[] at *;have a:aT=c++j8 (bx l e) 0::s1:=by rw[b1];simp
  have hlen:aT.length=c.length+s1.length+1:=by rw[a];simp;omega
  have aq:fG (aT++[dS c.length]) c.length (aT.length+1:Nat)=c++j8 (bx l e) (aT.length+1:Nat)::(s1++[dS c.length]):=by
   generalize ((aT.length+1:Nat):Int)=t;rw[a,J4,J5];exact oC c _ _ t
  rw[aq];have i3:=dH rest (d+1) l V T n1 (c++j8 (bx l e) (aT.length+1:Nat)::(s1++[dS c.length])) h.2.2 (hS.mono bM);have:=yx.step (k:=th.num+1) (n:=n) (m:=j8 (bx l e) (aT.length+1:Nat)::(s1++[dS c.length])) (by simp;omega) (fun x hx=>?_) bM ab i3
  ·rw[show (al.gb e th rest).num=rest.num+(th.num+1) by simp only[al.num];omega];exact this
  ·rcases J6.1 hx with rfl|hx
   ·exact .inr (.inr (.inr (.inl ⟨rfl,rfl,⟨_,rfl,aF.mono bM⟩,by show (0:Int)≤((aT.length+1:Nat):Int);omega,by show ((aT.length+1:Nat):Int)≤_;rw[hlen];simp;omega⟩)))
   ·rcases JZ.1 hx with hx|hx
    ·exact(cd x hx).mono (Int.le_refl _) (by rw[hlen];simp;omega)
    ·have:x=dS c.length:=by simpa using hx
     subst this;exact .inr (.inr (.inr (.inr (.inl ⟨rfl,rfl,by show (0:Int)≤(c.length:Int);omega,by show (c.length:Int)≤_;simp;omega⟩))))
theorem kS{l:List dz}(hn:(l.map (·.name)).Nodup)(he:e∈l):dk l e.name=some e:=by
 induction l with
 | nil=>simp at he
 | cons x l ao=>
  simp only[JW,List.nodup_cons] at hn;unfold dk at *;rcases J6.1 he with rfl|he
  ·simp
  ·rw[List.find?_cons_of_neg,ao hn.2 he];simp only[Kk];intro hx;exact hn.1 (by rw[hx];exact Ke.2 ⟨e,he,rfl⟩)
theorem nC{α:Type}(f:α→ByteArray)(k:Int):∀(l:List α) (i:Nat),(h9 f k l i).map (·.name)=l.map f
 | [],_=>rfl
 | x::l,i=>by simp only[h9,JW,nC f k l (i+1)]
theorem hL{α:Type}(f:α→ByteArray)(k:Int):∀(l:List α) (i j:Nat) (x:α),l[j]?=some x→⟨f x,k,((i+j:Nat):Int)⟩∈h9 f k l i
 | [],i,j,x,h=>by simp at h
 | y::l,i,0,x,h=>by
  simp only[List.getElem?_cons_zero,Ki] at h;subst h
  simp[h9]
 | y::l,i,j+1,x,h=>by
  simp only[List.getElem?_cons_succ] at h;have:=hL f k l (i+1) j x h;rw[show i+1+j=i+(j+1) by omega] at this;rw[h9];exact List.mem_cons_of_mem _ this
theorem fx:∀(ps:List (ByteArray×Bool)) (i k:Int),(dG ps i k).map (·.name)=ps.map (·.1)
 | [],_,_=>rfl
 | (s,true)::l,i,k=>by simp only[dG,JW,fx l]
 | (s,false)::l,i,k=>by simp only[dG,JW,fx l]
theorem gx(s:ByteArray)(b:Bool)(ps:List (ByteArray×Bool)):bU ((s,b)::ps)=bU ps+(if b then 0 else 1)∧bD ((s,b)::ps)=bD ps+(if b then 1 else 0):=by
 cases b<;>simp[bU,bD]
theorem ik(ps:List (ByteArray×Bool)):0≤bU ps∧0≤bD ps:=⟨Int.natCast_nonneg _,Int.natCast_nonneg _⟩
theorem m3:∀(ps:List (ByteArray×Bool)) (i k:Int) (s:ByteArray),(s,true)∈ps→∃e∈dG ps i k,e.name=s∧e.kind=5∧k≤e.n∧e.n<k+bD ps
 | [],_,_,s,h=>by simp at h
 | (x,b)::l,i,k,s,h0=>by
  have hc:=(gx x b l).2;have L:=(ik l).2;rcases J6.1 h0 with h|h
  ·injection h with ae aC;subst ae aC;rw[hc];exact⟨⟨s,5,k⟩,by simp[dG],rfl,rfl,Int.le_refl _,by simp;omega⟩
  ·cases b with
   | true=>
    obtain⟨e,he,ae,aC,aT,a9⟩:=m3 l i (k+1) s h;rw[hc]
    exact⟨e,by simp[dG,he],ae,aC,ab,by simp;omega⟩
   | false=>
    obtain⟨e,he,ae,aC,aT,a9⟩:=m3 l (i+1) k s h;rw[hc];exact⟨e,by simp[dG,he],ae,aC,ab,by simp;omega⟩
theorem pU:∀(ps:List (ByteArray×Bool)) (i k:Int) (s:ByteArray),(s,false)∈ps→∃e∈dG ps i k,e.name=s∧e.kind=4∧i≤e.n∧e.n<i+bU ps
 | [],_,_,s,h=>by simp at h
 | (x,b)::l,i,k,s,h0=>by
  have hc:=(gx x b l).1;have L:=(ik l).1;rcases J6.1 h0 with h|h
  ·injection h with ae aC;subst ae aC;rw[hc];exact⟨⟨s,4,i⟩,by simp[dG],rfl,rfl,Int.le_refl _,by simp;omega⟩
  ·cases b with
   | true=>
    obtain⟨e,he,ae,aC,aT,a9⟩:=pU l i (k+1) s h;rw[hc]
    exact⟨e,by simp[dG,he],ae,aC,ab,by simp;omega⟩
   | false=>
    obtain⟨e,he,ae,aC,aT,a9⟩:=pU l (i+1) k s h;rw[hc];exact⟨e,by simp[dG,he],ae,aC,ab,by simp;omega⟩
theorem fA(p:bB):(ba p).map (·.name)=a5 p:=by
 simp only[ba,a5,ft,JX,nC]
def bh(u:av):g4:=⟨u.globals.length,u.ae,u.procs.map fun p=>(p.ints,p.aw)⟩
structure pX(U:g4)(p:c6):Prop where
 ints:0≤p.ints∧p.ints≤p.locals∧p.locals≤200
 aw:0≤p.aw∧p.aw≤100
 code:∃s,p.code=s++[mX]∧s.length≤200∧∀x∈s,hy U p.locals p.aw s.length x
structure cU(u:av):Prop where
 procs:∀p∈u.procs,pX (bh u) p
 FU:u.procs.length≤16
 main:∃p,0≤u.main∧u.procs[u.main.toNat]?=some p∧p.ints=0∧p.aw=0
 x9:u.ae.length≤12
 gm:∀m∈u.ae,0≤m.size∧m.size≤64
 pK:u.globals.length≤16
 globals:∀g∈u.globals,-9223372036854775807≤g∧g≤9223372036854775807
theorem nT(p:bB):bh (fU p)=⟨p.globals.length,p.ae,p.funcs.map fun f=>(bU f.params,bD f.params)⟩:=by
 simp only[bh,fU,JU,List.map_map];rfl
theorem ub(hp:oE p)(aD:f∈p.funcs):
  Sc (bh (fU p)) (gj p f) (ba p++dG f.params 0 0) (ft p++cn f.params) (a5 p++f.params.map (·.1)) (bU f.params) (bD f.params):=by
 have hF:=hp.funcs f aD;have aR:((ba p++dG f.params 0 0).map (·.name)).Nodup:=by
  rw[JX,fA,fx];exact hF.fresh
 have bd:=fun e (he:e∈ba p++dG f.params 0 0)=>kS aR he;rw[nT];constructor
 ·intro s hs;rcases JZ.1 hs with hs|hs
  ·obtain⟨g,aJ,rfl⟩:=Ke.1 hs;obtain⟨i,al⟩:=List.getElem?_of_mem aJ;have:=bd _ (JZ.2 (.inl (by unfold ba;exact JZ.2 (.inl (JZ.2 (.inl (hL (·.1) 1 p.globals 0 i g al)))))));refine⟨_,this,.inl ⟨rfl,by show (0:Int)≤((0+i:Nat):Int);omega,?_⟩⟩;have:=(List.getElem?_eq_some_iff.1 al).1;show ((0+i:Nat):Int)<(p.globals.length:Int)
   omega
  ·obtain⟨⟨q,b⟩,bm,rfl⟩:=Ke.1 hs;obtain⟨e5,bH⟩:=List.mem_filter.1 bm;have O:b=false:=by simpa using bH
   subst O;obtain⟨e,he,ae,aC,aT,a9⟩:=pU f.params 0 0 q e5;have:=bd e (JZ.2 (.inr he));rw[ae] at this;exact⟨e,this,.inr ⟨aC,aT,ab⟩⟩
 ·intro m hm;obtain⟨i,al⟩:=List.getElem?_of_mem hm;have:=bd _ (JZ.2 (.inl (by unfold ba;exact JZ.2 (.inl (JZ.2 (.inr (hL (·.name) 2 p.ae 0 i m al)))))));refine⟨_,this,rfl,by show (0:Int)≤((0+i:Nat):Int);omega,?_⟩;show p.ae[(((0+i:Nat):Int)).toNat]?=some m
  rw[Kb,J8];exact al
 ·intro s hs;obtain⟨e,he,ae,aC,aT,a9⟩:=m3 f.params 0 0 s hs;have:=bd e (JZ.2 (.inr he));rw[ae] at this;exact⟨e,this,aC,aT,ab⟩
 ·intro s ps hs;obtain⟨g,aJ,a4⟩:=Ke.1 hs;injection a4 with b7 an;subst b7 an;obtain⟨i,al⟩:=List.getElem?_of_mem aJ;have:=bd _ (JZ.2 (.inl (by unfold ba;exact JZ.2 (.inr (hL (·.name) 3 p.funcs 0 i g al)))));refine⟨_,this,rfl,by show (0:Int)≤((0+i:Nat):Int);omega,?_⟩;show (p.funcs.map fun f=>(bU f.params,bD f.params))[(((0+i:Nat):Int)).toNat]?=_
  rw[Kb,J8,List.getElem?_map,al];rfl
 ·intro e he;have:e.name∈(ba p++dG f.params 0 0).map (·.name):=Ke.2 ⟨e,he,rfl⟩;rw[JX,fA,fx] at this;exact this
 ·exact(ik _).1
theorem ja{α:Type}(g:α→Nat){l:List α}{x:α}(h:x∈l):g x≤(l.map g).sum:=by
 induction l with
 | nil=>simp at h
 | cons y l ao=>
  simp only[JW,List.sum_cons];rcases J6.1 h with rfl|h
  ·omega
  ·have:=ao h;omega
theorem mq(ps:List (ByteArray×Bool)):bU ps≤ps.length∧bD ps≤ps.length:=by
 unfold bU bD;have ae:=List.length_filter_le (fun q:ByteArray×Bool=>!q.2) ps;have aC:=List.length_filter_le (fun q:ByteArray×Bool=>q.2) ps;omega
theorem Em(hp:oE p)(aD:f∈p.funcs):pX (bh (fU p)) (dY p f):=by
 have hF:=hp.funcs f aD;obtain⟨⟨s,hs,hl,aj⟩,hle,ah⟩:=dH f.body 4 _ _ _ (bU f.params) [] hF.body (ub hp aD);have z:f.body.num≤64:=J7 (ja (fun f:az=>f.body.num) aD) hp.jm;have J:=hF.jm;have hn:=mq f.params;have L:=ik f.params;refine⟨⟨L.1,hle,?_⟩,⟨L.2,?_⟩,?_⟩
 ·show (dw f.body (ba p++dG f.params 0 0) (bU f.params) []).2≤200
  omega
 ·show bD f.params≤100
  omega
 ·refine⟨(dw f.body (ba p++dG f.params 0 0) (bU f.params) []).1,rfl,?_,?_⟩
  ·rw[hs];simp;omega
  ·intro x hx;have g:x∈s:=by rw[hs] at hx;simpa using hx
   exact aj x g
theorem xe(hp:oE p):cU (fU p):=by
 refine⟨fun q bm=>?_,?_,?_,hp.x9,fun m hm=>⟨(hp.gm m hm).1,(hp.gm m hm).2.1⟩,?_,fun g aJ=>?_⟩
 ·obtain⟨f,aD,rfl⟩:=Ke.1 bm;exact Em hp aD
 ·show (p.funcs.map (dY p)).length≤16
  rw[JU];exact hp.Ep
 ·obtain⟨i,f,al,hn,ch⟩:=hp.main;have aR:((ba p).map (·.name)).Nodup:=by rw[fA];exact hp.nodup
  have he:=kS aR (show _∈ba p by unfold ba;exact JZ.2 (.inr (hL (·.name) 3 p.funcs 0 i f al)));have hm:(fU p).main=(i:Int):=by
   show iY (ba p) ij=(i:Int)
   simp only[hn,J8] at he;unfold iY;rw[show ij=⟨#[109,97,105,110]⟩ from rfl,he]
  refine⟨dY p f,by rw[hm];omega,?_,?_,?_⟩
  ·rw[hm,Kb];show (p.funcs.map (dY p))[i]?=_
   rw[List.getElem?_map,al];rfl
  ·show bU f.params=0
   rw[ch];rfl
  ·show bD f.params=0
   rw[ch];rfl
 ·show (p.globals.map (·.2)).length≤16
  rw[JU];exact hp.pK
 ·obtain⟨k,aj,rfl⟩:=Ke.1 aJ;exact hp.inits k aj
end Go.Proofs.YtbkhhfajcgkpgaaGreat

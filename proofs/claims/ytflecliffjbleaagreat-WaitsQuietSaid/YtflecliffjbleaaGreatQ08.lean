/- Part 8 of the proof. No condition of its own. -/
import Derived.Test.YtflecliffjbleaaGreatQ07
namespace Go.Proofs.YtflecliffjbleaaGreat
open Go.RowKit Go.Proofs.Tryz
set_option maxRecDepth 1000000
set_option maxHeartbeats 25600000
set_option linter.unusedVariables false
variable{s:ByteArray}{f:aA}{p:bD}
structure dG where
 name:ByteArray
 kind:Int
 n:Int
def dv(l:List dG)(s:ByteArray):Option dG:=l.find? λe=>decide (e.name=s)
def bC(l:List dG):VE->VE
 | .num n=>.num n
 | .gT s=>match dv l s with
  | some e=>if e.kind=1 then .iz e.n else .loc e.n
  | none=>.loc 0
 | .loc k=>.loc k
 | .iz k=>.iz k
 | .un op x=>.un op (bC l x)
 | .bin op x y=>.bin op (bC l x) (bC l y)
def mv(l:List dG)(r:eN):bJ:=
 match dv l r.name with
 | some v=>⟨v.kind == 5,v.n,r.idx.map (bC l)⟩
 | none=>⟨false,0,r.idx.map (bC l)⟩
def jl(l:List dG)(s:ByteArray):Int:=match dv l s with
 | some v=>v.n
 | none=>0
def ub(l:List dG)(s:ByteArray):Int:=match dv l s with
 | some v=>v.kind
 | none=>0
def bL(l:List dG):List dd->List VE
 | []=>[]
 | .ex e::aI=>bC l e::bL l aI
 | .mx _::aI=>bL l aI
def cw(l:List dG):List dd->List bJ
 | []=>[]
 | .ex _::aI=>cw l aI
 | .mx r::aI=>mv l r::cw l aI
def kh:bJ:=⟨false,0,none⟩
def lK(t:Int)(g:Bool)(e:VE):ay:=⟨1,t,g,some e,kh,[],[]⟩
def lQ(g:Bool)(t:Int)(is:List VE)(ps:List bJ):ay:=⟨if g then 3 else 2,t,false,none,kh,is,ps⟩
def qi(u:Bool)(p:bJ):ay:=⟨if u then 5 else 4,0,false,none,p,[],[]⟩
def kt(e:VE)(t:Int):ay:=⟨6,t,false,some e,kh,[],[]⟩
def dX(t:Int):ay:=⟨7,t,false,none,kh,[],[]⟩
def nD:ay:=⟨8,0,false,none,kh,[],[]⟩
def fR(c:List ay)(b:Nat)(t:Int):List ay:=c.modify b λx=>{x with target:=t}
def dD:ak->List dG->Int->List ay->List ay×Int
 | .nil,_,n,c=>(c,n)
 | .set true s e rest,l,n,c=>dD rest (l++[⟨s,4,n⟩]) (n+1) (c++[lK n false (bC l e)])
 | .set false s e rest,l,n,c=>dD rest l n (c++[lK (jl l s) (ub l s == 1) (bC l e)])
 | .call g s aI rest,l,n,c=>dD rest l n (c++[lQ g (jl l s) (bL l aI) (cw l aI)])
 | .lock u r rest,l,n,c=>dD rest l n (c++[qi u (mv l r)])
 | .ite e th el rest,l,n,c=>
  let p:=dD th l n (c++[kt (bC l e) 0])
  let q:=if el.isNil then (fR p.1 c.length p.1.length,p.2) else
   let k:=dD el l p.2 (fR (p.1++[dX 0]) c.length (p.1.length+1:Nat))
   (fR k.1 p.1.length k.1.length,k.2)
  dD rest l q.2 q.1
 | .gp e th rest,l,n,c=>
  let p:=dD th l n (c++[kt (bC l e) 0])
  dD rest l p.2 (fR (p.1++[dX c.length]) c.length (p.1.length+1:Nat))
 | .ret rest,l,n,c=>dD rest l n (c++[nD])
def iy{α:Type}(f:α->ByteArray)(k:Int):List α->Nat->List dG
 | [],_=>[]
 | x::l,i=>⟨f x,k,i⟩::iy f k l (i+1)
def bc(p:bD):List dG:=iy (·.1) 1 p.globals 0++iy (·.name) 2 p.ae 0++iy (·.name) 3 p.funcs 0
def dM:List (ByteArray×Bool)->Int->Int->List dG
 | [],_,_=>[]
 | (s,true)::l,i,k=>⟨s,5,k⟩::dM l i (k+1)
 | (s,false)::l,i,k=>⟨s,4,i⟩::dM l (i+1) k
def b2(ps:List (ByteArray×Bool)):Int:=((ps.filter λq=>!q.2).length:Nat)
def bK(ps:List (ByteArray×Bool)):Int:=((ps.filter λq=>q.2).length:Nat)
def eg(p:bD)(f:aA):di:=
 let q:=dD f.body (bc p++dM f.params 0 0) (b2 f.params) []
 ⟨f.name,b2 f.params,bK f.params,q.2,q.1++[nD]⟩
def iD:ByteArray:=⟨#[109,97,105,110]⟩
def gE(p:bD):av:=⟨p.globals.map (·.2),p.ae,p.funcs.map (eg p),jl (bc p) iD⟩
def VE.lit:VE->Prop
 | .num n=>0<=n/\n<=9223372036854775807
 | .un _ x=>x.lit
 | .bin _ x y=>x.lit/\y.lit
 | _=>True
structure hi where
 ng:Nat
 ae:List bF
 sig:List (Int×Int)
def fY(U:hi)(nl:Int)(e:VE):Prop:=e.ok U.ng nl.toNat/\e.lit
def cI(U:hi)(nl nk:Int)(p:bJ):Prop:=
 (p.param=true/\0<=p.index/\p.index<nk/\p.at_=none)\/
 (p.param=false/\∃m,0<=p.index/\U.ae[p.index.toNat]?=some m/\(0<m.size->∃e,p.at_=some e/\fY U nl e)/\(¬0<m.size->p.at_=none))
def hR(U:hi)(nl nk:Int)(len:Nat)(x:ay):Prop:=
 (x.op=1/\(∃e,x.expr=some e/\fY U nl e)/\0<=x.target/\(x.dw=true->x.target<U.ng)/\(x.dw=false->x.target<nl))\/
 ((x.op=2\/x.op=3)/\x.dw=false/\∃s,0<=x.target/\U.sig[x.target.toNat]?=some s/\(x.ints.length:Int)=s.1/\(x.places.length:Int)=s.2/\(∀e∈x.ints,fY U nl e)/\∀p∈x.places,cI U nl nk p)\/
 ((x.op=4\/x.op=5)/\x.dw=false/\cI U nl nk x.place)\/
 (x.op=6/\x.dw=false/\(∃e,x.expr=some e/\fY U nl e)/\0<=x.target/\x.target<=len)\/
 (x.op=7/\x.dw=false/\0<=x.target/\x.target<=len)\/
 (x.op=8/\x.dw=false)
structure Sc(U:hi)(G:Env)(l:List dG)(V T:LQ)(n nk:Int):Prop where
 vars:∀s∈V,∃e,dv l s=some e/\((e.kind=1/\0<=e.n/\e.n<U.ng)\/(e.kind=4/\0<=e.n/\e.n<n))
 IX:∀m∈G.ae,∃e,dv l m.name=some e/\e.kind=2/\0<=e.n/\U.ae[e.n.toNat]?=some m
 DV:∀s,(s,true)∈G.params->∃e,dv l s=some e/\e.kind=5/\0<=e.n/\e.n<nk
 fns:∀s ps,(s,ps)∈G.funcs->∃e,dv l s=some e/\e.kind=3/\0<=e.n/\U.sig[e.n.toNat]?=some (b2 ps,bK ps)
 taken:∀e∈l,e.name∈T
 n0:0<=n
variable{e:dG}
theorem jE{l:List dG}{x:dG}(h:dv l s=some e):dv (l++[x]) s=some e:=by
 unfold dv at *;rw[List.find?_append,h];rfl
theorem yH{l:List dG}{T:LQ}(ht:∀e∈l,e.name∈T)(hs:s∉T)(k n:Int):dv (l++[⟨s,k,n⟩]) s=some ⟨s,k,n⟩:=by
 unfold dv;rw[List.find?_append,List.find?_eq_none.2 (λe he=>by
  simp only[LI];rintro rfl;exact hs (ht e he))]
 simp
section
variable {U:hi} {G:Env} {l:List dG} {V T:LQ} {n a5 nk:Int}
theorem Sc.mono(h:Sc U G l V T n nk)(hn:n<=a5):Sc U G l V T a5 nk:=
 ⟨λs hs=>by obtain⟨e,he,ai⟩:=h.vars s hs;exact⟨e,he,ai.imp id λ⟨a,b,c⟩=>⟨a,b,ab⟩⟩,h.IX,h.DV,h.fns,h.taken,by have:=h.n0;omega⟩
theorem Sc.add(h:Sc U G l V T n nk)(hs:s∉T):Sc U G (l++[⟨s,4,n⟩]) (V++[s]) (T++[s]) (n+1) nk where
 vars:=λx hx=>by
  rcases Lk.1 hx with hx|hx
  .obtain⟨e,he,ai⟩:=h.vars x hx;exact⟨e,jE he,ai.imp id λ⟨a,b,c⟩=>⟨a,b,ab⟩⟩
  .have:x=s:=by simpa using hx
   subst this;exact⟨_,yH h.taken hs 4 n,.inr ⟨rfl,h.n0,by show n<n+1;omega⟩⟩
 IX:=λm hm=>by obtain⟨e,he,r⟩:=h.IX m hm;exact⟨e,jE he,r⟩
 DV:=λx hx=>by obtain⟨e,he,r⟩:=h.DV x hx;exact⟨e,jE he,r⟩
 fns:=λx ps hx=>by obtain⟨e,he,r⟩:=h.fns x ps hx;exact⟨e,jE he,r⟩
 taken:=λe he=>by
  rcases Lk.1 he with he|he
  .exact Lk.2 (.inl (h.taken e he))
  .have:e=⟨s,4,n⟩:=by simpa using he
   subst this;simp
 n0:=by have:=h.n0;omega
end
theorem pa{ng nl a:Nat}(h:nl<=a):∀x:VE,x.ok ng nl->x.ok ng a
 | .num _,_=>trivial
 | .gT _,q=>q.elim
 | .loc k,q=>⟨q.1,by have:=q.2;omega⟩
 | .iz k,q=>q
 | .un _ x,q=>⟨q.1,pa h x q.2⟩
 | .bin _ x y,q=>⟨q.1,pa h x q.2.1,pa h y q.2.2⟩
theorem fY.mono{U:hi}{n a5:Int}{e:VE}(h:fY U n e)(hn:n<=a5):fY U a5 e:=⟨pa (nl:=n.toNat) (a:=a5.toNat) ab e h.1,h.2⟩
theorem cI.mono{U:hi}{n a5 nk:Int}{p:bJ}(h:cI U n nk p)(hn:n<=a5):cI U a5 nk p:=
 h.imp id λ⟨a,m,b,c,d,e⟩=>⟨a,m,b,c,λhs=>by obtain⟨x,hx,ai⟩:=d hs;exact⟨x,hx,ai.mono hn⟩,e⟩
theorem hR.mono{U:hi}{n a5 nk:Int}{k F:Nat}{x:ay}(h:hR U n nk k x)(hn:n<=a5)(ai:k<=F):hR U a5 nk F x:=by
 rcases h with⟨ae,⟨e,he,bl⟩,aD,aU,a1⟩|⟨ae,aK,s,aD,aU,a1,cd,o,C⟩|⟨ae,aK,aD⟩|⟨ae,aK,⟨e,he,bl⟩,aD,aU⟩|⟨ae,aK,aD,aU⟩|h
 .exact .inl ⟨ae,⟨e,he,bl.mono hn⟩,aD,aU,λh=>by have:=a1 h;omega⟩
 .exact .inr (.inl ⟨ae,aK,s,aD,aU,a1,cd,λe he=>(o e he).mono hn,λp hp=>(C p hp).mono hn⟩)
 .exact .inr (.inr (.inl ⟨ae,aK,aD.mono hn⟩))
 .exact .inr (.inr (.inr (.inl ⟨ae,aK,⟨e,he,bl.mono hn⟩,aD,ab⟩)))
 .exact .inr (.inr (.inr (.inr (.inl ⟨ae,aK,aD,ab⟩))))
 .exact .inr (.inr (.inr (.inr (.inr h))))
section
variable {U:hi} {G:Env} {l:List dG} {V T:LQ} {n nk:Int} (hS:Sc U G l V T n nk)
include hS
theorem h1:∀(d:Nat) (x:VE),x.src V d->fY U n (bC l x)
 | d,.num k,h=>by
  have q:0<=k/\k<4611686018427387904:=by cases d<;>exact h
  exact⟨trivial,by show 0<=k/\k<=9223372036854775807;omega⟩
 | d,.gT s,h=>by
  have q:s∈V:=by cases d<;>exact h
  obtain⟨e,he,ai⟩:=hS.vars s q;have hn:=hS.n0;unfold bC;simp only[he];rcases ai with⟨ae,aD,aU⟩|⟨ae,aD,aU⟩
  .rw[if_pos ae];exact⟨⟨aD,aU⟩,trivial⟩
  .rw[if_neg ab]
   exact⟨⟨aD,ab⟩,trivial⟩
 | d,.loc _,h=>by cases d<;>exact h.elim
 | d,.iz _,h=>by cases d<;>exact h.elim
 | 0,.un _ _,h=>h.elim
 | 0,.bin _ _ _,h=>h.elim
 | d+1,.un op x,h=>by
  have ao:=h1 d x h.2
  exact⟨⟨h.1,ao.1⟩,ao.2⟩
 | d+1,.bin op x y,h=>by
  have i:=h1 d x h.2.1;have c:=h1 d y h.2.2;exact⟨⟨h.1,i.1,c.1⟩,i.2,c.2⟩
theorem yc(r:eN)(h:rf G V r):cI U n nk (mv l r):=by
 unfold mv;rcases h with⟨m,hm,hn,ae,aD⟩|⟨hp,ak⟩
 .obtain⟨e,he,ai,h0,hu⟩:=hS.IX m hm;rw[<-hn];simp only[he];refine .inr ⟨by simp[ai],m,h0,hu,λhs=>?_,λhs=>by simp[aD hs]⟩;obtain⟨x,hx,av⟩:=ae hs;exact⟨bC l x,by simp[hx],h1 hS 2 x av⟩
 .obtain⟨e,he,ai,h0,aw⟩:=hS.DV _ hp;simp only[he];exact .inl ⟨by simp[ai],h0,aw,by simp[ak]⟩
theorem sL:∀(ps:List (ByteArray×Bool)) (aI:List dd),h2 G V ps aI->
  ((bL l aI).length:Int)=b2 ps/\((cw l aI).length:Int)=bK ps/\(∀e∈bL l aI,fY U n e)/\∀p∈cw l aI,cI U n nk p
 | [],[],_=>⟨rfl,rfl,λe h=>by simp[bL] at h,λe h=>by simp[cw] at h⟩
 | (s,b)::ps,.mx r::aI,h=>by
  obtain⟨ae,aD,aU,a1⟩:=sL ps aI h.2;have O:b=true:=h.1.1;subst O;refine⟨?_,?_,aU,?_⟩
  .simpa[bL,b2] using ae
  .simp only[cw,Lo,bK] at aD ⊢;simp;omega
  .intro p hp;simp only[cw,Lr] at hp;rcases hp with rfl|hp
   .exact yc hS r h.1.2
   .exact a1 p hp
 | (s,b)::ps,.ex e::aI,h=>by
  obtain⟨ae,aD,aU,a1⟩:=sL ps aI h.2;have O:b=false:=h.1.1;subst O;refine⟨?_,?_,?_,a1⟩
  .simp only[bL,Lo,b2] at ae ⊢;simp;omega
  .simpa[cw,bK] using aD
  .intro p hp;simp only[bL,Lr] at hp;rcases hp with rfl|hp
   .exact h1 hS 2 e h.1.2
   .exact aU p hp
 | [],_::_,h=>h.elim
 | _::_,[],h=>h.elim
end
theorem pj(a:List ay)(x:ay)(b:List ay)(t:Int):fR (a++x::b) a.length t=a++{x with target:=t}::b:=by
 unfold fR
 induction a with
 | nil=>rfl
 | cons y a ao=>simp only[Lq,Lo,List.modify_succ_cons,ao]
structure zn(U:hi)(nk n:Int)(c:List ay)(num:Nat)(r:List ay×Int):Prop where
 ex:∃s,r.1=c++s/\s.length<=2*num/\∀x∈s,hR U r.2 nk r.1.length x
 le:n<=r.2
 ge:r.2<=n+num
theorem zn.step{U:hi}{nk n a5:Int}{c m:List ay}{k num:Nat}{r:List ay×Int}(hm:m.length<=2*k)(cc:∀x∈m,hR U a5 nk (c++m).length x)(hn:n<=a5)(cl:a5<=n+k)(h:zn U nk a5 (c++m) num r):zn U nk n c (num+k) r:=by
 obtain⟨⟨s,hs,hl,ai⟩,hle,a4⟩:=h;refine⟨⟨m++s,by rw[hs,Lp],by simp;omega,λx hx=>?_⟩,ab,ab⟩;rcases Lk.1 hx with hx|hx
 .exact(cc x hx).mono hle (by rw[hs];simp)
 .exact ai x hx
theorem dN{U:hi}{G:Env}{nk:Int}:∀(b:ak) (d:Nat) (l:List dG) (V T:LQ) (n:Int) (c:List ay),eM G d V T b->Sc U G l V T n nk->zn U nk n c b.num (dD b l n c)
 | .nil,d,l,V,T,n,c,_,_=>⟨⟨[],by simp[dD],by simp,λx h=>by simp at h⟩,Int.le_refl _,by simp[dD,ak.num]⟩
 | .set true s e rest,d,l,V,T,n,c,h,hS=>by
  have q:bq s.data.toList=true/\s∉T/\e.src V 2/\eM G d (V++[s]) (T++[s]) rest:=by cases d<;>exact h
  have ao:=dN rest d _ _ _ (n+1) (c++[lK n false (bC l e)]) q.2.2.2 (hS.add q.2.1);refine zn.step (m:=[lK n false (bC l e)]) (k:=1) (by simp) (λx hx=>?_) ab ab ao;have:x=lK n false (bC l e):=by simpa using hx
  subst this
  exact .inl ⟨rfl,⟨_,rfl,(h1 hS 2 e q.2.2.1).mono ab⟩,hS.n0,(λh=>by cases h),λ_=>by show n<n+1;omega⟩
 | .set false s e rest,d,l,V,T,n,c,h,hS=>by
  have q:s∈V/\e.src V 2/\eM G d V T rest:=by cases d<;>exact h
  have ao:=dN rest d _ _ _ n (c++[lK (jl l s) (ub l s == 1) (bC l e)]) q.2.2 hS;refine zn.step (m:=[lK (jl l s) (ub l s == 1) (bC l e)]) (k:=1) (by simp) (λx hx=>?_) (Int.le_refl _) ab ao;have:x=lK (jl l s) (ub l s == 1) (bC l e):=by simpa using hx
  subst this;obtain⟨v,bD,ai⟩:=hS.vars s q.1;have e1:jl l s=v.n:=by simp[jl,bD]
  have e2:ub l s=v.kind:=by simp[ub,bD]
  rw[e1,e2];refine .inl ⟨rfl,⟨_,rfl,h1 hS 2 e q.2.1⟩,?_,λaK=>?_,λaK=>?_⟩
  .show 0<=v.n;omega
  .have j:v.kind=1:=by simpa[lK] using aK
   show v.n<_
   omega
  .have j:¬v.kind=1:=by simpa[lK] using aK
   show v.n<n
   omega
 | .call g s aI rest,d,l,V,T,n,c,h,hS=>by
  have q:(∃ps,(s,ps)∈G.funcs/\h2 G V ps aI)/\eM G d V T rest:=by cases d<;>exact h
  obtain⟨⟨ps,J,has⟩,aQ⟩:=q;have ao:=dN rest d _ _ _ n (c++[lQ g (jl l s) (bL l aI) (cw l aI)]) aQ hS;refine zn.step (m:=[lQ g (jl l s) (bL l aI) (cw l aI)]) (k:=1) (by simp) (λx hx=>?_) (Int.le_refl _) ab ao;have:x=lQ g (jl l s) (bL l aI) (cw l aI):=by simpa using hx
  subst this;obtain⟨v,bD,_,h0,hu⟩:=hS.fns s ps J;have e1:jl l s=v.n:=by simp[jl,bD]
  obtain⟨i,y,a3,a4⟩:=sL hS ps aI has;rw[e1]
  exact .inr (.inl ⟨by cases g<;>simp[lQ],rfl,_,h0,hu,i,y,a3,a4⟩)
 | .lock u r rest,d,l,V,T,n,c,h,hS=>by
  have q:rf G V r/\eM G d V T rest:=by cases d<;>exact h
  have ao:=dN rest d _ _ _ n (c++[qi u (mv l r)]) q.2 hS;refine zn.step (m:=[qi u (mv l r)]) (k:=1) (by simp) (λx hx=>?_) (Int.le_refl _) ab ao;have:x=qi u (mv l r):=by simpa using hx
  subst this
  exact .inr (.inr (.inl ⟨by cases u<;>simp[qi],rfl,yc hS r q.1⟩))
 | .ret rest,d,l,V,T,n,c,h,hS=>by
  have q:eM G d V T rest:=by cases d<;>exact h
  have ao:=dN rest d _ _ _ n (c++[nD]) q hS;refine zn.step (m:=[nD]) (k:=1) (by simp) (λx hx=>?_) (Int.le_refl _) ab ao;have:x=nD:=by simpa using hx
  subst this
  exact .inr (.inr (.inr (.inr (.inr ⟨rfl,rfl⟩))))
 | .ite e th el rest,0,l,V,T,n,c,h,hS=>h.elim
 | .gp e th rest,0,l,V,T,n,c,h,hS=>h.elim
 | .ite e th el rest,d+1,l,V,T,n,c,h,hS=>by
  have i1:=dN th d l V T n (c++[kt (bC l e) 0]) h.2.1 hS;have aE:=h1 hS 2 e h.1;unfold dD;simp only[];generalize dD th l n (c++[kt (bC l e) 0])=p at *;obtain⟨⟨s1,b6,hj,ci⟩,bh,c8⟩:=i1;obtain⟨ag,n1⟩:=p;simp only[] at *;have a:ag=c++kt (bC l e) 0::s1:=by rw[b6];simp
  cases hn:el.isNil with
  | true=>
   simp only[if_true];have am:fR ag c.length ag.length=c++kt (bC l e) ag.length::s1:=by
    generalize (ag.length:Int)=t;rw[a];exact pj c _ s1 t
   rw[am];have i3:=dN rest (d+1) l V T n1 (c++kt (bC l e) ag.length::s1) h.2.2.2 (hS.mono bh);have hlen:ag.length=c.length+s1.length+1:=by rw[a];simp;omega
   have:=zn.step (k:=th.num+el.num+1) (n:=n) (m:=kt (bC l e) ag.length::s1) (by simp;omega) (λx hx=>?_) bh ab i3
   .rw[show (ak.ite e th el rest).num=rest.num+(th.num+el.num+1) by simp only[ak.num];omega];exact this
   .rcases Lr.1 hx with rfl|hx
    .exact .inr (.inr (.inr (.inl ⟨rfl,rfl,⟨_,rfl,aE.mono bh⟩,by show (0:Int)<=(ag.length:Int);omega,by show (ag.length:Int)<=_;rw[hlen];simp;omega⟩)))
    .exact(ci x hx).mono (Int.le_refl _) (by rw[hlen];simp;omega)
  | false=>
   simp only[LJ,if_false];have am:fR (ag++[dX 0]) c.length (ag.length+1:Nat)=c++kt (bC l e) (ag.length+1:Nat)::(s1++[dX 0]):=by
    generalize ((ag.length+1:Nat):Int)=t;rw[a,Lp,Lq];exact pj c _ _ t
   have hlen:ag.length=c.length+s1.length+1:=by rw[a];simp;omega
   rw[am];have i2:=dN el d l V T n1 (c++kt (bC l e) (ag.length+1:Nat)::(s1++[dX 0])) h.2.2.1 (hS.mono bh);generalize dD el l n1 (c++kt (bC l e) (ag.length+1:Nat)::(s1++[dX 0]))=k at *;obtain⟨⟨s2,bv,I,co⟩,fw,fv⟩:=i2;obtain⟨cd,n2⟩:=k;simp only[] at *;have o:cd=(c++kt (bC l e) (ag.length+1:Nat)::s1)++dX 0::s2:=by rw[bv];simp
   have w:fR cd ag.length cd.length=(c++kt (bC l e) (ag.length+1:Nat)::s1)++dX cd.length::s2:=by
    have bf:ag.length=(c++kt (bC l e) (ag.length+1:Nat)::s1).length:=by rw[hlen];simp;omega
    generalize (cd.length:Int)=t;rw[o,congrArg (fR _) bf];exact pj _ _ s2 t
   have f:cd.length=c.length+s1.length+s2.length+2:=by rw[o];simp;omega
   rw[w,Lp,Lq];have i3:=dN rest (d+1) l V T n2 (c++kt (bC l e) (ag.length+1:Nat)::(s1++dX cd.length::s2)) h.2.2.2 (hS.mono ab);have:=zn.step (k:=th.num+el.num+1) (n:=n) (m:=kt (bC l e) (ag.length+1:Nat)::(s1++dX cd.length::s2)) (by simp;omega) (λx hx=>?_) ab ab i3
   .rw[show (ak.ite e th el rest).num=rest.num+(th.num+el.num+1) by simp only[ak.num];omega];exact this
   .rcases Lr.1 hx with rfl|hx
    .exact .inr (.inr (.inr (.inl ⟨rfl,rfl,⟨_,rfl,aE.mono ab⟩,by show (0:Int)<=((ag.length+1:Nat):Int);omega,by show ((ag.length+1:Nat):Int)<=_;rw[hlen];simp;omega⟩)))
    .rcases Lk.1 hx with hx|hx
     .exact(ci x hx).mono ab (by rw[hlen];simp;omega)
     .rcases Lr.1 hx with rfl|hx
      .exact .inr (.inr (.inr (.inr (.inl ⟨rfl,rfl,by show (0:Int)<=(cd.length:Int);omega,by show (cd.length:Int)<=_;rw[f];simp;omega⟩))))
      .exact(co x hx).mono (Int.le_refl _) (by rw[f];simp;omega)
 | .gp e th rest,d+1,l,V,T,n,c,h,hS=>by
  have i1:=dN th d l V T n (c++[kt (bC l e) 0]) h.2.1 hS;have aE:=h1 hS 2 e h.1;unfold dD;simp only[];generalize dD th l n (c++[kt (bC l e) 0])=p at *;obtain⟨⟨s1,b6,hj,ci⟩,bh,c8⟩:=i1;obtain⟨ag,n1⟩:=p;simp only[] at *;have a:ag=c++kt (bC l e) 0::s1:=by rw[b6];simp
  have hlen:ag.length=c.length+s1.length+1:=by rw[a];simp;omega
  have am:fR (ag++[dX c.length]) c.length (ag.length+1:Nat)=c++kt (bC l e) (ag.length+1:Nat)::(s1++[dX c.length]):=by
   generalize ((ag.length+1:Nat):Int)=t;rw[a,Lp,Lq];exact pj c _ _ t
  rw[am];have i3:=dN rest (d+1) l V T n1 (c++kt (bC l e) (ag.length+1:Nat)::(s1++[dX c.length])) h.2.2 (hS.mono bh);have:=zn.step (k:=th.num+1) (n:=n) (m:=kt (bC l e) (ag.length+1:Nat)::(s1++[dX c.length])) (by simp;omega) (λx hx=>?_) bh ab i3
  .rw[show (ak.gp e th rest).num=rest.num+(th.num+1) by simp only[ak.num];omega];exact this
  .rcases Lr.1 hx with rfl|hx
   .exact .inr (.inr (.inr (.inl ⟨rfl,rfl,⟨_,rfl,aE.mono bh⟩,by show (0:Int)<=((ag.length+1:Nat):Int);omega,by show ((ag.length+1:Nat):Int)<=_;rw[hlen];simp;omega⟩)))
   .rcases Lk.1 hx with hx|hx
    .exact(ci x hx).mono (Int.le_refl _) (by rw[hlen];simp;omega)
    .have:x=dX c.length:=by simpa using hx
     subst this;exact .inr (.inr (.inr (.inr (.inl ⟨rfl,rfl,by show (0:Int)<=(c.length:Int);omega,by show (c.length:Int)<=_;simp;omega⟩))))
theorem lq{l:List dG}(hn:(l.map (·.name)).Nodup)(he:e∈l):dv l e.name=some e:=by
 induction l with
 | nil=>simp at he
 | cons x l ao=>
  simp only[Lh,List.nodup_cons] at hn;unfold dv at *;rcases Lr.1 he with rfl|he
  .simp
  .rw[List.find?_cons_of_neg,ao hn.2 he];simp only[LI];intro hx;exact hn.1 (by rw[hx];exact Lz.2 ⟨e,he,rfl⟩)
theorem od{α:Type}(f:α->ByteArray)(k:Int):∀(l:List α) (i:Nat),(iy f k l i).map (·.name)=l.map f
 | [],_=>rfl
 | x::l,i=>by simp only[iy,Lh,od f k l (i+1)]
theorem h5{α:Type}(f:α->ByteArray)(k:Int):∀(l:List α) (i j:Nat) (x:α),l[j]?=some x->⟨f x,k,((i+j:Nat):Int)⟩∈iy f k l i
 | [],i,j,x,h=>by simp at h
 | y::l,i,0,x,h=>by
  simp only[List.getElem?_cons_zero,LG] at h;subst h
  simp[iy]
 | y::l,i,j+1,x,h=>by
  simp only[List.getElem?_cons_succ] at h;have:=h5 f k l (i+1) j x h;rw[show i+1+j=i+(j+1) by omega] at this;rw[iy];exact List.mem_cons_of_mem _ this
theorem fJ:∀(ps:List (ByteArray×Bool)) (i k:Int),(dM ps i k).map (·.name)=ps.map (·.1)
 | [],_,_=>rfl
 | (s,true)::l,i,k=>by simp only[dM,Lh,fJ l]
 | (s,false)::l,i,k=>by simp only[dM,Lh,fJ l]
theorem gF(s:ByteArray)(b:Bool)(ps:List (ByteArray×Bool)):b2 ((s,b)::ps)=b2 ps+(if b then 0 else 1)/\bK ((s,b)::ps)=bK ps+(if b then 1 else 0):=by
 cases b<;>simp[b2,bK]
theorem iE(ps:List (ByteArray×Bool)):0<=b2 ps/\0<=bK ps:=⟨Int.natCast_nonneg _,Int.natCast_nonneg _⟩
theorem nK:∀(ps:List (ByteArray×Bool)) (i k:Int) (s:ByteArray),(s,true)∈ps->∃e∈dM ps i k,e.name=s/\e.kind=5/\k<=e.n/\e.n<k+bK ps
 | [],_,_,s,h=>by simp at h
 | (x,b)::l,i,k,s,h0=>by
  have hc:=(gF x b l).2;have bB:=(iE l).2;rcases Lr.1 h0 with h|h
  .injection h with ae aD;subst ae aD;rw[hc];exact⟨⟨s,5,k⟩,by simp[dM],rfl,rfl,Int.le_refl _,by simp;omega⟩
  .cases b with
   | true=>
    obtain⟨e,he,ae,aD,aU,a1⟩:=nK l i (k+1) s h;rw[hc]
    exact⟨e,by simp[dM,he],ae,aD,ab,by simp;omega⟩
   | false=>
    obtain⟨e,he,ae,aD,aU,a1⟩:=nK l (i+1) k s h;rw[hc];exact⟨e,by simp[dM,he],ae,aD,ab,by simp;omega⟩
theorem qE:∀(ps:List (ByteArray×Bool)) (i k:Int) (s:ByteArray),(s,false)∈ps->∃e∈dM ps i k,e.name=s/\e.kind=4/\i<=e.n/\e.n<i+b2 ps
 | [],_,_,s,h=>by simp at h
 | (x,b)::l,i,k,s,h0=>by
  have hc:=(gF x b l).1;have bB:=(iE l).1;rcases Lr.1 h0 with h|h
  .injection h with ae aD;subst ae aD;rw[hc];exact⟨⟨s,4,i⟩,by simp[dM],rfl,rfl,Int.le_refl _,by simp;omega⟩
  .cases b with
   | true=>
    obtain⟨e,he,ae,aD,aU,a1⟩:=qE l i (k+1) s h;rw[hc]
    exact⟨e,by simp[dM,he],ae,aD,ab,by simp;omega⟩
   | false=>
    obtain⟨e,he,ae,aD,aU,a1⟩:=qE l (i+1) k s h;rw[hc];exact⟨e,by simp[dM,he],ae,aD,ab,by simp;omega⟩
theorem fM(p:bD):(bc p).map (·.name)=ba p:=by
 simp only[bc,ba,fF,Li,od]
def bj(u:av):hi:=⟨u.globals.length,u.ae,u.procs.map λp=>(p.ints,p.aw)⟩
structure qH(U:hi)(p:di):Prop where
 ints:0<=p.ints/\p.ints<=p.locals/\p.locals<=200
 aw:0<=p.aw/\p.aw<=100
 code:∃s,p.code=s++[nD]/\s.length<=200/\∀x∈s,hR U p.locals p.aw s.length x
structure cP(u:av):Prop where
 procs:∀p∈u.procs,qH (bj u) p
 GW:u.procs.length<=16
 main:∃p,0<=u.main/\u.procs[u.main.toNat]?=some p/\p.ints=0/\p.aw=0
 yY:u.ae.length<=12
 gy:∀m∈u.ae,0<=m.size/\m.size<=64
 qv:u.globals.length<=16
 globals:∀g∈u.globals,-9223372036854775807<=g/\g<=9223372036854775807
theorem oB(p:bD):bj (gE p)=⟨p.globals.length,p.ae,p.funcs.map λf=>(b2 f.params,bK f.params)⟩:=by
 simp only[bj,gE,Lf,List.map_map];rfl
theorem uT(hp:oK p)(J:f∈p.funcs):
  Sc (bj (gE p)) (fo p f) (bc p++dM f.params 0 0) (fF p++cy f.params) (ba p++f.params.map (·.1)) (b2 f.params) (bK f.params):=by
 have hF:=hp.funcs f J;have aS:((bc p++dM f.params 0 0).map (·.name)).Nodup:=by
  rw[Li,fM,fJ];exact hF.fresh
 have a2:=λe (he:e∈bc p++dM f.params 0 0)=>lq aS he;rw[oB];constructor
 .intro s hs;rcases Lk.1 hs with hs|hs
  .obtain⟨g,aK,rfl⟩:=Lz.1 hs;obtain⟨i,ak⟩:=List.getElem?_of_mem aK;have:=a2 _ (Lk.2 (.inl (by unfold bc;exact Lk.2 (.inl (Lk.2 (.inl (h5 (·.1) 1 p.globals 0 i g ak)))))));refine⟨_,this,.inl ⟨rfl,by show (0:Int)<=((0+i:Nat):Int);omega,?_⟩⟩;have:=(List.getElem?_eq_some_iff.1 ak).1;show ((0+i:Nat):Int)<(p.globals.length:Int)
   omega
  .obtain⟨⟨q,b⟩,br,rfl⟩:=Lz.1 hs;obtain⟨e7,bs⟩:=List.mem_filter.1 br;have O:b=false:=by simpa using bs
   subst O;obtain⟨e,he,ae,aD,aU,a1⟩:=qE f.params 0 0 q e7;have:=a2 e (Lk.2 (.inr he));rw[ae] at this;exact⟨e,this,.inr ⟨aD,aU,ab⟩⟩
 .intro m hm;obtain⟨i,ak⟩:=List.getElem?_of_mem hm;have:=a2 _ (Lk.2 (.inl (by unfold bc;exact Lk.2 (.inl (Lk.2 (.inr (h5 (·.name) 2 p.ae 0 i m ak)))))));refine⟨_,this,rfl,by show (0:Int)<=((0+i:Nat):Int);omega,?_⟩;show p.ae[(((0+i:Nat):Int)).toNat]?=some m
  rw[Lw,Lt];exact ak
 .intro s hs;obtain⟨e,he,ae,aD,aU,a1⟩:=nK f.params 0 0 s hs;have:=a2 e (Lk.2 (.inr he));rw[ae] at this;exact⟨e,this,aD,aU,ab⟩
 .intro s ps hs;obtain⟨g,aK,bJ⟩:=Lz.1 hs;injection bJ with aO al;subst aO al;obtain⟨i,ak⟩:=List.getElem?_of_mem aK;have:=a2 _ (Lk.2 (.inl (by unfold bc;exact Lk.2 (.inr (h5 (·.name) 3 p.funcs 0 i g ak)))));refine⟨_,this,rfl,by show (0:Int)<=((0+i:Nat):Int);omega,?_⟩;show (p.funcs.map λf=>(b2 f.params,bK f.params))[(((0+i:Nat):Int)).toNat]?=_
  rw[Lw,Lt,List.getElem?_map,ak];rfl
 .intro e he;have:e.name∈(bc p++dM f.params 0 0).map (·.name):=Lz.2 ⟨e,he,rfl⟩;rw[Li,fM,fJ] at this;exact this
 .exact(iE _).1
theorem jo{α:Type}(g:α->Nat){l:List α}{x:α}(h:x∈l):g x<=(l.map g).sum:=by
 induction l with
 | nil=>simp at h
 | cons y l ao=>
  simp only[Lh,List.sum_cons];rcases Lr.1 h with rfl|h
  .omega
  .have:=ao h;omega
theorem mY(ps:List (ByteArray×Bool)):b2 ps<=ps.length/\bK ps<=ps.length:=by
 unfold b2 bK;have ae:=List.length_filter_le (λq:ByteArray×Bool=>!q.2) ps;have aD:=List.length_filter_le (λq:ByteArray×Bool=>q.2) ps;omega
theorem Fi(hp:oK p)(J:f∈p.funcs):qH (bj (gE p)) (eg p f):=by
 have hF:=hp.funcs f J;obtain⟨⟨s,hs,hl,ai⟩,hle,a4⟩:=dN f.body 4 _ _ _ (b2 f.params) [] hF.body (uT hp J);have K:f.body.num<=64:=Ls (jo (λf:aA=>f.body.num) J) hp.iT;have M:=hF.iT;have hn:=mY f.params;have bB:=iE f.params;refine⟨⟨bB.1,hle,?_⟩,⟨bB.2,?_⟩,?_⟩
 .show (dD f.body (bc p++dM f.params 0 0) (b2 f.params) []).2<=200
  omega
 .show bK f.params<=100
  omega
 .refine⟨(dD f.body (bc p++dM f.params 0 0) (b2 f.params) []).1,rfl,?_,?_⟩
  .rw[hs];simp;omega
  .intro x hx;have g:x∈s:=by rw[hs] at hx;simpa using hx
   exact ai x g
theorem x1(hp:oK p):cP (gE p):=by
 refine⟨λq br=>?_,?_,?_,hp.yY,λm hm=>⟨(hp.gy m hm).1,(hp.gy m hm).2.1⟩,?_,λg aK=>?_⟩
 .obtain⟨f,J,rfl⟩:=Lz.1 br;exact Fi hp J
 .show (p.funcs.map (eg p)).length<=16
  rw[Lf];exact hp.Fl
 .obtain⟨i,f,ak,hn,cq⟩:=hp.main;have aS:((bc p).map (·.name)).Nodup:=by rw[fM];exact hp.nodup
  have he:=lq aS (show _∈bc p by unfold bc;exact Lk.2 (.inr (h5 (·.name) 3 p.funcs 0 i f ak)));have hm:(gE p).main=(i:Int):=by
   show jl (bc p) iD=(i:Int)
   simp only[hn,Lt] at he;unfold jl;rw[show iD=⟨#[109,97,105,110]⟩ from rfl,he]
  refine⟨eg p f,by rw[hm];omega,?_,?_,?_⟩
  .rw[hm,Lw];show (p.funcs.map (eg p))[i]?=_
   rw[List.getElem?_map,ak];rfl
  .show b2 f.params=0
   rw[cq];rfl
  .show bK f.params=0
   rw[cq];rfl
 .show (p.globals.map (·.2)).length<=16
  rw[Lf];exact hp.qv
 .obtain⟨k,ai,rfl⟩:=Lz.1 aK;exact hp.inits k ai
end Go.Proofs.YtflecliffjbleaaGreat

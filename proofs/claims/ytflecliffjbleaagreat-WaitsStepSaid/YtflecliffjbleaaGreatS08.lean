/- Part 8 of the proof. No condition of its own. -/
import Derived.Test.YtflecliffjbleaaGreatS07
namespace Go.Proofs.YtflecliffjbleaaGreat
open Go.RowKit Go.Proofs.Tryz
set_option maxRecDepth 1000000
set_option maxHeartbeats 25600000
set_option linter.unusedVariables false
variable{s:ByteArray}{f:aG}{p:bM}
structure dQ where
 name:ByteArray
 kind:Int
 n:Int
def dD(l:List dQ)(s:ByteArray):Option dQ:=l.find? λe=>decide (e.name=s)
def bK(l:List dQ):VE->VE
 | .num n=>.num n
 | .ha s=>match dD l s with
  | some e=>if e.kind=1 then .iK e.n else .loc e.n
  | none=>.loc 0
 | .loc k=>.loc k
 | .iK k=>.iK k
 | .un op x=>.un op (bK l x)
 | .bin op x y=>.bin op (bK l x) (bK l y)
def mA(l:List dQ)(r:eW):bP:=
 match dD l r.name with
 | some v=>⟨v.kind == 5,v.n,r.idx.map (bK l)⟩
 | none=>⟨false,0,r.idx.map (bK l)⟩
def jv(l:List dQ)(s:ByteArray):Int:=match dD l s with
 | some v=>v.n
 | none=>0
def uk(l:List dQ)(s:ByteArray):Int:=match dD l s with
 | some v=>v.kind
 | none=>0
def bS(l:List dQ):List dj->List VE
 | []=>[]
 | .ex e::aT=>bK l e::bS l aT
 | .mx _::aT=>bS l aT
def cB(l:List dQ):List dj->List bP
 | []=>[]
 | .ex _::aT=>cB l aT
 | .mx r::aT=>mA l r::cB l aT
def ko:bP:=⟨false,0,none⟩
def lO(t:Int)(g:Bool)(e:VE):ay:=⟨1,t,g,some e,ko,[],[]⟩
def lS(g:Bool)(t:Int)(is:List VE)(ps:List bP):ay:=⟨if g then 3 else 2,t,false,none,ko,is,ps⟩
def ql(u:Bool)(p:bP):ay:=⟨if u then 5 else 4,0,false,none,p,[],[]⟩
def kA(e:VE)(t:Int):ay:=⟨6,t,false,some e,ko,[],[]⟩
def et(t:Int):ay:=⟨7,t,false,none,ko,[],[]⟩
def nJ:ay:=⟨8,0,false,none,ko,[],[]⟩
def gm(c:List ay)(b:Nat)(t:Int):List ay:=c.modify b λx=>{x with target:=t}
def dL:al->List dQ->Int->List ay->List ay×Int
 | .nil,_,n,c=>(c,n)
 | .set true s e rest,l,n,c=>dL rest (l++[⟨s,4,n⟩]) (n+1) (c++[lO n false (bK l e)])
 | .set false s e rest,l,n,c=>dL rest l n (c++[lO (jv l s) (uk l s == 1) (bK l e)])
 | .call g s aT rest,l,n,c=>dL rest l n (c++[lS g (jv l s) (bS l aT) (cB l aT)])
 | .lock u r rest,l,n,c=>dL rest l n (c++[ql u (mA l r)])
 | .ite e th el rest,l,n,c=>
  let p:=dL th l n (c++[kA (bK l e) 0])
  let q:=if el.isNil then (gm p.1 c.length p.1.length,p.2) else
   let k:=dL el l p.2 (gm (p.1++[et 0]) c.length (p.1.length+1:Nat))
   (gm k.1 p.1.length k.1.length,k.2)
  dL rest l q.2 q.1
 | .gG e th rest,l,n,c=>
  let p:=dL th l n (c++[kA (bK l e) 0])
  dL rest l p.2 (gm (p.1++[et c.length]) c.length (p.1.length+1:Nat))
 | .ret rest,l,n,c=>dL rest l n (c++[nJ])
def iJ{α:Type}(f:α->ByteArray)(k:Int):List α->Nat->List dQ
 | [],_=>[]
 | x::l,i=>⟨f x,k,i⟩::iJ f k l (i+1)
def bm(p:bM):List dQ:=iJ (·.1) 1 p.globals 0++iJ (·.name) 2 p.af 0++iJ (·.name) 3 p.funcs 0
def dV:List (ByteArray×Bool)->Int->Int->List dQ
 | [],_,_=>[]
 | (s,true)::l,i,k=>⟨s,5,k⟩::dV l i (k+1)
 | (s,false)::l,i,k=>⟨s,4,i⟩::dV l (i+1) k
def cc(ps:List (ByteArray×Bool)):Int:=((ps.filter λq=>!q.2).length:Nat)
def bQ(ps:List (ByteArray×Bool)):Int:=((ps.filter λq=>q.2).length:Nat)
def eA(p:bM)(f:aG):cM:=
 let q:=dL f.body (bm p++dV f.params 0 0) (cc f.params) []
 ⟨f.name,cc f.params,bQ f.params,q.2,q.1++[nJ]⟩
def iN:ByteArray:=⟨#[109,97,105,110]⟩
def gV(p:bM):aw:=⟨p.globals.map (·.2),p.af,p.funcs.map (eA p),jv (bm p) iN⟩
def VE.lit:VE->Prop
 | .num n=>0<=n/\n<=9223372036854775807
 | .un _ x=>x.lit
 | .bin _ x y=>x.lit/\y.lit
 | _=>True
structure hW where
 ng:Nat
 af:List bL
 sig:List (Int×Int)
def gw(U:hW)(nl:Int)(e:VE):Prop:=e.ok U.ng nl.toNat/\e.lit
def cL(U:hW)(nl nk:Int)(p:bP):Prop:=
 (p.param=true/\0<=p.index/\p.index<nk/\p.at_=none)\/
 (p.param=false/\∃m,0<=p.index/\U.af[p.index.toNat]?=some m/\(0<m.size->∃e,p.at_=some e/\gw U nl e)/\(¬0<m.size->p.at_=none))
def ib(U:hW)(nl nk:Int)(len:Nat)(x:ay):Prop:=
 (x.op=1/\(∃e,x.expr=some e/\gw U nl e)/\0<=x.target/\(x.du=true->x.target<U.ng)/\(x.du=false->x.target<nl))\/
 ((x.op=2\/x.op=3)/\x.du=false/\∃s,0<=x.target/\U.sig[x.target.toNat]?=some s/\(x.ints.length:Int)=s.1/\(x.places.length:Int)=s.2/\(∀e∈x.ints,gw U nl e)/\∀p∈x.places,cL U nl nk p)\/
 ((x.op=4\/x.op=5)/\x.du=false/\cL U nl nk x.place)\/
 (x.op=6/\x.du=false/\(∃e,x.expr=some e/\gw U nl e)/\0<=x.target/\x.target<=len)\/
 (x.op=7/\x.du=false/\0<=x.target/\x.target<=len)\/
 (x.op=8/\x.du=false)
structure Sc(U:hW)(G:Env)(l:List dQ)(V T:Ml)(n nk:Int):Prop where
 vars:∀s∈V,∃e,dD l s=some e/\((e.kind=1/\0<=e.n/\e.n<U.ng)\/(e.kind=4/\0<=e.n/\e.n<n))
 Jz:∀m∈G.af,∃e,dD l m.name=some e/\e.kind=2/\0<=e.n/\U.af[e.n.toNat]?=some m
 EK:∀s,(s,true)∈G.params->∃e,dD l s=some e/\e.kind=5/\0<=e.n/\e.n<nk
 fns:∀s ps,(s,ps)∈G.funcs->∃e,dD l s=some e/\e.kind=3/\0<=e.n/\U.sig[e.n.toNat]?=some (cc ps,bQ ps)
 taken:∀e∈l,e.name∈T
 n0:0<=n
variable{e:dQ}
theorem jJ{l:List dQ}{x:dQ}(h:dD l s=some e):dD (l++[x]) s=some e:=by
 unfold dD at *;rw[List.find?_append,h];rfl
theorem yY{l:List dQ}{T:Ml}(ht:∀e∈l,e.name∈T)(hs:s∉T)(k n:Int):dD (l++[⟨s,k,n⟩]) s=some ⟨s,k,n⟩:=by
 unfold dD;rw[List.find?_append,List.find?_eq_none.2 (λe he=>by
  simp only[Md];rintro rfl;exact hs (ht e he))]
 simp
section
variable {U:hW} {G:Env} {l:List dQ} {V T:Ml} {n aQ nk:Int}
theorem Sc.mono(h:Sc U G l V T n nk)(hn:n<=aQ):Sc U G l V T aQ nk:=
 ⟨λs hs=>by obtain⟨e,he,aj⟩:=h.vars s hs;exact⟨e,he,aj.imp id λ⟨a,b,c⟩=>⟨a,b,ad⟩⟩,h.Jz,h.EK,h.fns,h.taken,by have:=h.n0;omega⟩
theorem Sc.add(h:Sc U G l V T n nk)(hs:s∉T):Sc U G (l++[⟨s,4,n⟩]) (V++[s]) (T++[s]) (n+1) nk where
 vars:=λx hx=>by
  rcases LL.1 hx with hx|hx
  .obtain⟨e,he,aj⟩:=h.vars x hx;exact⟨e,jJ he,aj.imp id λ⟨a,b,c⟩=>⟨a,b,ad⟩⟩
  .have:x=s:=by simpa using hx
   subst this;exact⟨_,yY h.taken hs 4 n,.inr ⟨rfl,h.n0,by show n<n+1;omega⟩⟩
 Jz:=λm hm=>by obtain⟨e,he,r⟩:=h.Jz m hm;exact⟨e,jJ he,r⟩
 EK:=λx hx=>by obtain⟨e,he,r⟩:=h.EK x hx;exact⟨e,jJ he,r⟩
 fns:=λx ps hx=>by obtain⟨e,he,r⟩:=h.fns x ps hx;exact⟨e,jJ he,r⟩
 taken:=λe he=>by
  rcases LL.1 he with he|he
  .exact LL.2 (.inl (h.taken e he))
  .have:e=⟨s,4,n⟩:=by simpa using he
   subst this;simp
 n0:=by have:=h.n0;omega
end
theorem pt{ng nl a:Nat}(h:nl<=a):∀x:VE,x.ok ng nl->x.ok ng a
 | .num _,_=>trivial
 | .ha _,q=>q.elim
 | .loc k,q=>⟨q.1,by have:=q.2;omega⟩
 | .iK k,q=>q
 | .un _ x,q=>⟨q.1,pt h x q.2⟩
 | .bin _ x y,q=>⟨q.1,pt h x q.2.1,pt h y q.2.2⟩
theorem gw.mono{U:hW}{n aQ:Int}{e:VE}(h:gw U n e)(hn:n<=aQ):gw U aQ e:=⟨pt (nl:=n.toNat) (a:=aQ.toNat) ad e h.1,h.2⟩
theorem cL.mono{U:hW}{n aQ nk:Int}{p:bP}(h:cL U n nk p)(hn:n<=aQ):cL U aQ nk p:=
 h.imp id λ⟨a,m,b,c,d,e⟩=>⟨a,m,b,c,λhs=>by obtain⟨x,hx,aj⟩:=d hs;exact⟨x,hx,aj.mono hn⟩,e⟩
theorem ib.mono{U:hW}{n aQ nk:Int}{k F:Nat}{x:ay}(h:ib U n nk k x)(hn:n<=aQ)(aj:k<=F):ib U aQ nk F x:=by
 rcases h with⟨ac,⟨e,he,bn⟩,ax,a1,aU⟩|⟨ac,aY,s,ax,a1,aU,cy,bQ,C⟩|⟨ac,aY,ax⟩|⟨ac,aY,⟨e,he,bn⟩,ax,a1⟩|⟨ac,aY,ax,a1⟩|h
 .exact .inl ⟨ac,⟨e,he,bn.mono hn⟩,ax,a1,λh=>by have:=aU h;omega⟩
 .exact .inr (.inl ⟨ac,aY,s,ax,a1,aU,cy,λe he=>(bQ e he).mono hn,λp hp=>(C p hp).mono hn⟩)
 .exact .inr (.inr (.inl ⟨ac,aY,ax.mono hn⟩))
 .exact .inr (.inr (.inr (.inl ⟨ac,aY,⟨e,he,bn.mono hn⟩,ax,ad⟩)))
 .exact .inr (.inr (.inr (.inr (.inl ⟨ac,aY,ax,ad⟩))))
 .exact .inr (.inr (.inr (.inr (.inr h))))
section
variable {U:hW} {G:Env} {l:List dQ} {V T:Ml} {n nk:Int} (hS:Sc U G l V T n nk)
include hS
theorem ij:∀(d:Nat) (x:VE),x.src V d->gw U n (bK l x)
 | d,.num k,h=>by
  have q:0<=k/\k<4611686018427387904:=by cases d<;>exact h
  exact⟨trivial,by show 0<=k/\k<=9223372036854775807;omega⟩
 | d,.ha s,h=>by
  have q:s∈V:=by cases d<;>exact h
  obtain⟨e,he,aj⟩:=hS.vars s q;have hn:=hS.n0;unfold bK;simp only[he];rcases aj with⟨ac,ax,a1⟩|⟨ac,ax,a1⟩
  .rw[if_pos ac];exact⟨⟨ax,a1⟩,trivial⟩
  .rw[if_neg ad]
   exact⟨⟨ax,ad⟩,trivial⟩
 | d,.loc _,h=>by cases d<;>exact h.elim
 | d,.iK _,h=>by cases d<;>exact h.elim
 | 0,.un _ _,h=>h.elim
 | 0,.bin _ _ _,h=>h.elim
 | d+1,.un op x,h=>by
  have aq:=ij d x h.2
  exact⟨⟨h.1,aq.1⟩,aq.2⟩
 | d+1,.bin op x y,h=>by
  have i:=ij d x h.2.1;have c:=ij d y h.2.2;exact⟨⟨h.1,i.1,c.1⟩,i.2,c.2⟩
theorem yp(r:eW)(h:su G V r):cL U n nk (mA l r):=by
 unfold mA;rcases h with⟨m,hm,hn,ac,ax⟩|⟨hp,al⟩
 .obtain⟨e,he,aj,h0,hu⟩:=hS.Jz m hm;rw[<-hn];simp only[he];refine .inr ⟨by simp[aj],m,h0,hu,λhs=>?_,λhs=>by simp[ax hs]⟩;obtain⟨x,hx,aw⟩:=ac hs;exact⟨bK l x,by simp[hx],ij hS 2 x aw⟩
 .obtain⟨e,he,aj,h0,ap⟩:=hS.EK _ hp;simp only[he];exact .inl ⟨by simp[aj],h0,ap,by simp[al]⟩
theorem sT:∀(ps:List (ByteArray×Bool)) (aT:List dj),iX G V ps aT->
  ((bS l aT).length:Int)=cc ps/\((cB l aT).length:Int)=bQ ps/\(∀e∈bS l aT,gw U n e)/\∀p∈cB l aT,cL U n nk p
 | [],[],_=>⟨rfl,rfl,λe h=>by simp[bS] at h,λe h=>by simp[cB] at h⟩
 | (s,b)::ps,.mx r::aT,h=>by
  obtain⟨ac,ax,a1,aU⟩:=sT ps aT h.2;have O:b=true:=h.1.1;subst O;refine⟨?_,?_,a1,?_⟩
  .simpa[bS,cc] using ac
  .simp only[cB,LP,bQ] at ax ⊢;simp;omega
  .intro p hp;simp only[cB,LS] at hp;rcases hp with rfl|hp
   .exact yp hS r h.1.2
   .exact aU p hp
 | (s,b)::ps,.ex e::aT,h=>by
  obtain⟨ac,ax,a1,aU⟩:=sT ps aT h.2;have O:b=false:=h.1.1;subst O;refine⟨?_,?_,?_,aU⟩
  .simp only[bS,LP,cc] at ac ⊢;simp;omega
  .simpa[cB,bQ] using ax
  .intro p hp;simp only[bS,LS] at hp;rcases hp with rfl|hp
   .exact ij hS 2 e h.1.2
   .exact a1 p hp
 | [],_::_,h=>h.elim
 | _::_,[],h=>h.elim
end
theorem pz(a:List ay)(x:ay)(b:List ay)(t:Int):gm (a++x::b) a.length t=a++{x with target:=t}::b:=by
 unfold gm
 induction a with
 | nil=>rfl
 | cons y a aq=>simp only[LR,LP,List.modify_succ_cons,aq]
structure zD(U:hW)(nk n:Int)(c:List ay)(num:Nat)(r:List ay×Int):Prop where
 ex:∃s,r.1=c++s/\s.length<=2*num/\∀x∈s,ib U r.2 nk r.1.length x
 le:n<=r.2
 ge:r.2<=n+num
theorem zD.step{U:hW}{nk n aQ:Int}{c m:List ay}{k num:Nat}{r:List ay×Int}(hm:m.length<=2*k)(b8:∀x∈m,ib U aQ nk (c++m).length x)(hn:n<=aQ)(cH:aQ<=n+k)(h:zD U nk aQ (c++m) num r):zD U nk n c (num+k) r:=by
 obtain⟨⟨s,hs,hl,aj⟩,hle,a6⟩:=h;refine⟨⟨m++s,by rw[hs,LQ],by simp;omega,λx hx=>?_⟩,ad,ad⟩;rcases LL.1 hx with hx|hx
 .exact(b8 x hx).mono hle (by rw[hs];simp)
 .exact aj x hx
theorem dW{U:hW}{G:Env}{nk:Int}:∀(b:al) (d:Nat) (l:List dQ) (V T:Ml) (n:Int) (c:List ay),fk G d V T b->Sc U G l V T n nk->zD U nk n c b.num (dL b l n c)
 | .nil,d,l,V,T,n,c,_,_=>⟨⟨[],by simp[dL],by simp,λx h=>by simp at h⟩,Int.le_refl _,by simp[dL,al.num]⟩
 | .set true s e rest,d,l,V,T,n,c,h,hS=>by
  have q:bF s.data.toList=true/\s∉T/\e.src V 2/\fk G d (V++[s]) (T++[s]) rest:=by cases d<;>exact h
  have aq:=dW rest d _ _ _ (n+1) (c++[lO n false (bK l e)]) q.2.2.2 (hS.add q.2.1);refine zD.step (m:=[lO n false (bK l e)]) (k:=1) (by simp) (λx hx=>?_) ad ad aq;have:x=lO n false (bK l e):=by simpa using hx
  subst this
  exact .inl ⟨rfl,⟨_,rfl,(ij hS 2 e q.2.2.1).mono ad⟩,hS.n0,(λh=>by cases h),λ_=>by show n<n+1;omega⟩
 | .set false s e rest,d,l,V,T,n,c,h,hS=>by
  have q:s∈V/\e.src V 2/\fk G d V T rest:=by cases d<;>exact h
  have aq:=dW rest d _ _ _ n (c++[lO (jv l s) (uk l s == 1) (bK l e)]) q.2.2 hS;refine zD.step (m:=[lO (jv l s) (uk l s == 1) (bK l e)]) (k:=1) (by simp) (λx hx=>?_) (Int.le_refl _) ad aq;have:x=lO (jv l s) (uk l s == 1) (bK l e):=by simpa using hx
  subst this;obtain⟨v,bG,aj⟩:=hS.vars s q.1;have e1:jv l s=v.n:=by simp[jv,bG]
  have e2:uk l s=v.kind:=by simp[uk,bG]
  rw[e1,e2];refine .inl ⟨rfl,⟨_,rfl,ij hS 2 e q.2.1⟩,?_,λaY=>?_,λaY=>?_⟩
  .show 0<=v.n;omega
  .have j:v.kind=1:=by simpa[lO] using aY
   show v.n<_
   omega
  .have j:¬v.kind=1:=by simpa[lO] using aY
   show v.n<n
   omega
 | .call g s aT rest,d,l,V,T,n,c,h,hS=>by
  have q:(∃ps,(s,ps)∈G.funcs/\iX G V ps aT)/\fk G d V T rest:=by cases d<;>exact h
  obtain⟨⟨ps,J,has⟩,a9⟩:=q;have aq:=dW rest d _ _ _ n (c++[lS g (jv l s) (bS l aT) (cB l aT)]) a9 hS;refine zD.step (m:=[lS g (jv l s) (bS l aT) (cB l aT)]) (k:=1) (by simp) (λx hx=>?_) (Int.le_refl _) ad aq;have:x=lS g (jv l s) (bS l aT) (cB l aT):=by simpa using hx
  subst this;obtain⟨v,bG,_,h0,hu⟩:=hS.fns s ps J;have e1:jv l s=v.n:=by simp[jv,bG]
  obtain⟨i,y,a3,a4⟩:=sT hS ps aT has;rw[e1]
  exact .inr (.inl ⟨by cases g<;>simp[lS],rfl,_,h0,hu,i,y,a3,a4⟩)
 | .lock u r rest,d,l,V,T,n,c,h,hS=>by
  have q:su G V r/\fk G d V T rest:=by cases d<;>exact h
  have aq:=dW rest d _ _ _ n (c++[ql u (mA l r)]) q.2 hS;refine zD.step (m:=[ql u (mA l r)]) (k:=1) (by simp) (λx hx=>?_) (Int.le_refl _) ad aq;have:x=ql u (mA l r):=by simpa using hx
  subst this
  exact .inr (.inr (.inl ⟨by cases u<;>simp[ql],rfl,yp hS r q.1⟩))
 | .ret rest,d,l,V,T,n,c,h,hS=>by
  have q:fk G d V T rest:=by cases d<;>exact h
  have aq:=dW rest d _ _ _ n (c++[nJ]) q hS;refine zD.step (m:=[nJ]) (k:=1) (by simp) (λx hx=>?_) (Int.le_refl _) ad aq;have:x=nJ:=by simpa using hx
  subst this
  exact .inr (.inr (.inr (.inr (.inr ⟨rfl,rfl⟩))))
 | .ite e th el rest,0,l,V,T,n,c,h,hS=>h.elim
 | .gG e th rest,0,l,V,T,n,c,h,hS=>h.elim
 | .ite e th el rest,d+1,l,V,T,n,c,h,hS=>by
  have i1:=dW th d l V T n (c++[kA (bK l e) 0]) h.2.1 hS;have aF:=ij hS 2 e h.1;unfold dL;simp only[];generalize dL th l n (c++[kA (bK l e) 0])=p at *;obtain⟨⟨s1,cg,hj,b7⟩,bp,db⟩:=i1;obtain⟨ai,n1⟩:=p;simp only[] at *;have a:ai=c++kA (bK l e) 0::s1:=by rw[cg];simp
  cases hn:el.isNil with
  | true=>
   simp only[if_true];have L:gm ai c.length ai.length=c++kA (bK l e) ai.length::s1:=by
    generalize (ai.length:Int)=t;rw[a];exact pz c _ s1 t
   rw[L];have i3:=dW rest (d+1) l V T n1 (c++kA (bK l e) ai.length::s1) h.2.2.2 (hS.mono bp);have hlen:ai.length=c.length+s1.length+1:=by rw[a];simp;omega
   have:=zD.step (k:=th.num+el.num+1) (n:=n) (m:=kA (bK l e) ai.length::s1) (by simp;omega) (λx hx=>?_) bp ad i3
   .rw[show (al.ite e th el rest).num=rest.num+(th.num+el.num+1) by simp only[al.num];omega];exact this
   .rcases LS.1 hx with rfl|hx
    .exact .inr (.inr (.inr (.inl ⟨rfl,rfl,⟨_,rfl,aF.mono bp⟩,by show (0:Int)<=(ai.length:Int);omega,by show (ai.length:Int)<=_;rw[hlen];simp;omega⟩)))
    .exact(b7 x hx).mono (Int.le_refl _) (by rw[hlen];simp;omega)
  | false=>
   simp only[Me,if_false];have L:gm (ai++[et 0]) c.length (ai.length+1:Nat)=c++kA (bK l e) (ai.length+1:Nat)::(s1++[et 0]):=by
    generalize ((ai.length+1:Nat):Int)=t;rw[a,LQ,LR];exact pz c _ _ t
   have hlen:ai.length=c.length+s1.length+1:=by rw[a];simp;omega
   rw[L];have i2:=dW el d l V T n1 (c++kA (bK l e) (ai.length+1:Nat)::(s1++[et 0])) h.2.2.1 (hS.mono bp);generalize dL el l n1 (c++kA (bK l e) (ai.length+1:Nat)::(s1++[et 0]))=k at *;obtain⟨⟨s2,bP,ct,cK⟩,fz,fy⟩:=i2;obtain⟨cv,n2⟩:=k;simp only[] at *;have o:cv=(c++kA (bK l e) (ai.length+1:Nat)::s1)++et 0::s2:=by rw[bP];simp
   have w:gm cv ai.length cv.length=(c++kA (bK l e) (ai.length+1:Nat)::s1)++et cv.length::s2:=by
    have bk:ai.length=(c++kA (bK l e) (ai.length+1:Nat)::s1).length:=by rw[hlen];simp;omega
    generalize (cv.length:Int)=t;rw[o,congrArg (gm _) bk];exact pz _ _ s2 t
   have f:cv.length=c.length+s1.length+s2.length+2:=by rw[o];simp;omega
   rw[w,LQ,LR];have i3:=dW rest (d+1) l V T n2 (c++kA (bK l e) (ai.length+1:Nat)::(s1++et cv.length::s2)) h.2.2.2 (hS.mono ad);have:=zD.step (k:=th.num+el.num+1) (n:=n) (m:=kA (bK l e) (ai.length+1:Nat)::(s1++et cv.length::s2)) (by simp;omega) (λx hx=>?_) ad ad i3
   .rw[show (al.ite e th el rest).num=rest.num+(th.num+el.num+1) by simp only[al.num];omega];exact this
   .rcases LS.1 hx with rfl|hx
    .exact .inr (.inr (.inr (.inl ⟨rfl,rfl,⟨_,rfl,aF.mono ad⟩,by show (0:Int)<=((ai.length+1:Nat):Int);omega,by show ((ai.length+1:Nat):Int)<=_;rw[hlen];simp;omega⟩)))
    .rcases LL.1 hx with hx|hx
     .exact(b7 x hx).mono ad (by rw[hlen];simp;omega)
     .rcases LS.1 hx with rfl|hx
      .exact .inr (.inr (.inr (.inr (.inl ⟨rfl,rfl,by show (0:Int)<=(cv.length:Int);omega,by show (cv.length:Int)<=_;rw[f];simp;omega⟩))))
      .exact(cK x hx).mono (Int.le_refl _) (by rw[f];simp;omega)
 | .gG e th rest,d+1,l,V,T,n,c,h,hS=>by
  have i1:=dW th d l V T n (c++[kA (bK l e) 0]) h.2.1 hS;have aF:=ij hS 2 e h.1;unfold dL;simp only[];generalize dL th l n (c++[kA (bK l e) 0])=p at *;obtain⟨⟨s1,cg,hj,b7⟩,bp,db⟩:=i1;obtain⟨ai,n1⟩:=p;simp only[] at *;have a:ai=c++kA (bK l e) 0::s1:=by rw[cg];simp
  have hlen:ai.length=c.length+s1.length+1:=by rw[a];simp;omega
  have L:gm (ai++[et c.length]) c.length (ai.length+1:Nat)=c++kA (bK l e) (ai.length+1:Nat)::(s1++[et c.length]):=by
   generalize ((ai.length+1:Nat):Int)=t;rw[a,LQ,LR];exact pz c _ _ t
  rw[L];have i3:=dW rest (d+1) l V T n1 (c++kA (bK l e) (ai.length+1:Nat)::(s1++[et c.length])) h.2.2 (hS.mono bp);have:=zD.step (k:=th.num+1) (n:=n) (m:=kA (bK l e) (ai.length+1:Nat)::(s1++[et c.length])) (by simp;omega) (λx hx=>?_) bp ad i3
  .rw[show (al.gG e th rest).num=rest.num+(th.num+1) by simp only[al.num];omega];exact this
  .rcases LS.1 hx with rfl|hx
   .exact .inr (.inr (.inr (.inl ⟨rfl,rfl,⟨_,rfl,aF.mono bp⟩,by show (0:Int)<=((ai.length+1:Nat):Int);omega,by show ((ai.length+1:Nat):Int)<=_;rw[hlen];simp;omega⟩)))
   .rcases LL.1 hx with hx|hx
    .exact(b7 x hx).mono (Int.le_refl _) (by rw[hlen];simp;omega)
    .have:x=et c.length:=by simpa using hx
     subst this;exact .inr (.inr (.inr (.inr (.inl ⟨rfl,rfl,by show (0:Int)<=(c.length:Int);omega,by show (c.length:Int)<=_;simp;omega⟩))))
theorem lv{l:List dQ}(hn:(l.map (·.name)).Nodup)(he:e∈l):dD l e.name=some e:=by
 induction l with
 | nil=>simp at he
 | cons x l aq=>
  simp only[LI,List.nodup_cons] at hn;unfold dD at *;rcases LS.1 he with rfl|he
  .simp
  .rw[List.find?_cons_of_neg,aq hn.2 he];simp only[Md];intro hx;exact hn.1 (by rw[hx];exact L5.2 ⟨e,he,rfl⟩)
theorem ov{α:Type}(f:α->ByteArray)(k:Int):∀(l:List α) (i:Nat),(iJ f k l i).map (·.name)=l.map f
 | [],_=>rfl
 | x::l,i=>by simp only[iJ,LI,ov f k l (i+1)]
theorem iq{α:Type}(f:α->ByteArray)(k:Int):∀(l:List α) (i j:Nat) (x:α),l[j]?=some x->⟨f x,k,((i+j:Nat):Int)⟩∈iJ f k l i
 | [],i,j,x,h=>by simp at h
 | y::l,i,0,x,h=>by
  simp only[List.getElem?_cons_zero,Mb] at h;subst h
  simp[iJ]
 | y::l,i,j+1,x,h=>by
  simp only[List.getElem?_cons_succ] at h;have:=iq f k l (i+1) j x h;rw[show i+1+j=i+(j+1) by omega] at this;rw[iJ];exact List.mem_cons_of_mem _ this
theorem fZ:∀(ps:List (ByteArray×Bool)) (i k:Int),(dV ps i k).map (·.name)=ps.map (·.1)
 | [],_,_=>rfl
 | (s,true)::l,i,k=>by simp only[dV,LI,fZ l]
 | (s,false)::l,i,k=>by simp only[dV,LI,fZ l]
theorem gW(s:ByteArray)(b:Bool)(ps:List (ByteArray×Bool)):cc ((s,b)::ps)=cc ps+(if b then 0 else 1)/\bQ ((s,b)::ps)=bQ ps+(if b then 1 else 0):=by
 cases b<;>simp[cc,bQ]
theorem iO(ps:List (ByteArray×Bool)):0<=cc ps/\0<=bQ ps:=⟨Int.natCast_nonneg _,Int.natCast_nonneg _⟩
theorem nS:∀(ps:List (ByteArray×Bool)) (i k:Int) (s:ByteArray),(s,true)∈ps->∃e∈dV ps i k,e.name=s/\e.kind=5/\k<=e.n/\e.n<k+bQ ps
 | [],_,_,s,h=>by simp at h
 | (x,b)::l,i,k,s,h0=>by
  have hc:=(gW x b l).2;have cb:=(iO l).2;rcases LS.1 h0 with h|h
  .injection h with ac ax;subst ac ax;rw[hc];exact⟨⟨s,5,k⟩,by simp[dV],rfl,rfl,Int.le_refl _,by simp;omega⟩
  .cases b with
   | true=>
    obtain⟨e,he,ac,ax,a1,aU⟩:=nS l i (k+1) s h;rw[hc]
    exact⟨e,by simp[dV,he],ac,ax,ad,by simp;omega⟩
   | false=>
    obtain⟨e,he,ac,ax,a1,aU⟩:=nS l (i+1) k s h;rw[hc];exact⟨e,by simp[dV,he],ac,ax,ad,by simp;omega⟩
theorem qI:∀(ps:List (ByteArray×Bool)) (i k:Int) (s:ByteArray),(s,false)∈ps->∃e∈dV ps i k,e.name=s/\e.kind=4/\i<=e.n/\e.n<i+cc ps
 | [],_,_,s,h=>by simp at h
 | (x,b)::l,i,k,s,h0=>by
  have hc:=(gW x b l).1;have cb:=(iO l).1;rcases LS.1 h0 with h|h
  .injection h with ac ax;subst ac ax;rw[hc];exact⟨⟨s,4,i⟩,by simp[dV],rfl,rfl,Int.le_refl _,by simp;omega⟩
  .cases b with
   | true=>
    obtain⟨e,he,ac,ax,a1,aU⟩:=qI l i (k+1) s h;rw[hc]
    exact⟨e,by simp[dV,he],ac,ax,ad,by simp;omega⟩
   | false=>
    obtain⟨e,he,ac,ax,a1,aU⟩:=qI l (i+1) k s h;rw[hc];exact⟨e,by simp[dV,he],ac,ax,ad,by simp;omega⟩
theorem gb(p:bM):(bm p).map (·.name)=bh p:=by
 simp only[bm,bh,fW,LJ,ov]
def br(u:aw):hW:=⟨u.globals.length,u.af,u.procs.map λp=>(p.ints,p.ax)⟩
structure qL(U:hW)(p:cM):Prop where
 ints:0<=p.ints/\p.ints<=p.locals/\p.locals<=200
 ax:0<=p.ax/\p.ax<=100
 code:∃s,p.code=s++[nJ]/\s.length<=200/\∀x∈s,ib U p.locals p.ax s.length x
structure dg(u:aw):Prop where
 procs:∀p∈u.procs,qL (br u) p
 Hz:u.procs.length<=16
 main:∃p,0<=u.main/\u.procs[u.main.toNat]?=some p/\p.ints=0/\p.ax=0
 zh:u.af.length<=12
 gO:∀m∈u.af,0<=m.size/\m.size<=64
 qA:u.globals.length<=16
 globals:∀g∈u.globals,-9223372036854775807<=g/\g<=9223372036854775807
theorem oK(p:bM):br (gV p)=⟨p.globals.length,p.af,p.funcs.map λf=>(cc f.params,bQ f.params)⟩:=by
 simp only[br,gV,LG,List.map_map];rfl
theorem vb(hp:pB p)(J:f∈p.funcs):
  Sc (br (gV p)) (gN p f) (bm p++dV f.params 0 0) (fW p++cC f.params) (bh p++f.params.map (·.1)) (cc f.params) (bQ f.params):=by
 have hF:=hp.funcs f J;have aK:((bm p++dV f.params 0 0).map (·.name)).Nodup:=by
  rw[LJ,gb,fZ];exact hF.fresh
 have aV:=λe (he:e∈bm p++dV f.params 0 0)=>lv aK he;rw[oK];constructor
 .intro s hs;rcases LL.1 hs with hs|hs
  .obtain⟨g,aY,rfl⟩:=L5.1 hs;obtain⟨i,al⟩:=List.getElem?_of_mem aY;have:=aV _ (LL.2 (.inl (by unfold bm;exact LL.2 (.inl (LL.2 (.inl (iq (·.1) 1 p.globals 0 i g al)))))));refine⟨_,this,.inl ⟨rfl,by show (0:Int)<=((0+i:Nat):Int);omega,?_⟩⟩;have:=(List.getElem?_eq_some_iff.1 al).1;show ((0+i:Nat):Int)<(p.globals.length:Int)
   omega
  .obtain⟨⟨q,b⟩,bv,rfl⟩:=L5.1 hs;obtain⟨e9,bG⟩:=List.mem_filter.1 bv;have O:b=false:=by simpa using bG
   subst O;obtain⟨e,he,ac,ax,a1,aU⟩:=qI f.params 0 0 q e9;have:=aV e (LL.2 (.inr he));rw[ac] at this;exact⟨e,this,.inr ⟨ax,a1,ad⟩⟩
 .intro m hm;obtain⟨i,al⟩:=List.getElem?_of_mem hm;have:=aV _ (LL.2 (.inl (by unfold bm;exact LL.2 (.inl (LL.2 (.inr (iq (·.name) 2 p.af 0 i m al)))))));refine⟨_,this,rfl,by show (0:Int)<=((0+i:Nat):Int);omega,?_⟩;show p.af[(((0+i:Nat):Int)).toNat]?=some m
  rw[LZ,LW];exact al
 .intro s hs;obtain⟨e,he,ac,ax,a1,aU⟩:=nS f.params 0 0 s hs;have:=aV e (LL.2 (.inr he));rw[ac] at this;exact⟨e,this,ax,a1,ad⟩
 .intro s ps hs;obtain⟨g,aY,bF⟩:=L5.1 hs;injection bF with aI an;subst aI an;obtain⟨i,al⟩:=List.getElem?_of_mem aY;have:=aV _ (LL.2 (.inl (by unfold bm;exact LL.2 (.inr (iq (·.name) 3 p.funcs 0 i g al)))));refine⟨_,this,rfl,by show (0:Int)<=((0+i:Nat):Int);omega,?_⟩;show (p.funcs.map λf=>(cc f.params,bQ f.params))[(((0+i:Nat):Int)).toNat]?=_
  rw[LZ,LW,List.getElem?_map,al];rfl
 .intro e he;have:e.name∈(bm p++dV f.params 0 0).map (·.name):=L5.2 ⟨e,he,rfl⟩;rw[LJ,gb,fZ] at this;exact this
 .exact(iO _).1
theorem jx{α:Type}(g:α->Nat){l:List α}{x:α}(h:x∈l):g x<=(l.map g).sum:=by
 induction l with
 | nil=>simp at h
 | cons y l aq=>
  simp only[LI,List.sum_cons];rcases LS.1 h with rfl|h
  .omega
  .have:=aq h;omega
theorem mZ(ps:List (ByteArray×Bool)):cc ps<=ps.length/\bQ ps<=ps.length:=by
 unfold cc bQ;have ac:=List.length_filter_le (λq:ByteArray×Bool=>!q.2) ps;have ax:=List.length_filter_le (λq:ByteArray×Bool=>q.2) ps;omega
theorem F6(hp:pB p)(J:f∈p.funcs):qL (br (gV p)) (eA p f):=by
 have hF:=hp.funcs f J;obtain⟨⟨s,hs,hl,aj⟩,hle,a6⟩:=dW f.body 4 _ _ _ (cc f.params) [] hF.body (vb hp J);have K:f.body.num<=64:=LU (jx (λf:aG=>f.body.num) J) hp.jf;have L:=hF.jf;have hn:=mZ f.params;have cb:=iO f.params;refine⟨⟨cb.1,hle,?_⟩,⟨cb.2,?_⟩,?_⟩
 .show (dL f.body (bm p++dV f.params 0 0) (cc f.params) []).2<=200
  omega
 .show bQ f.params<=100
  omega
 .refine⟨(dL f.body (bm p++dV f.params 0 0) (cc f.params) []).1,rfl,?_,?_⟩
  .rw[hs];simp;omega
  .intro x hx;have g:x∈s:=by rw[hs] at hx;simpa using hx
   exact aj x g
theorem yd(hp:pB p):dg (gV p):=by
 refine⟨λq bv=>?_,?_,?_,hp.zh,λm hm=>⟨(hp.gO m hm).1,(hp.gO m hm).2.1⟩,?_,λg aY=>?_⟩
 .obtain⟨f,J,rfl⟩:=L5.1 bv;exact F6 hp J
 .show (p.funcs.map (eA p)).length<=16
  rw[LG];exact hp.F9
 .obtain⟨i,f,al,hn,cl⟩:=hp.main;have aK:((bm p).map (·.name)).Nodup:=by rw[gb];exact hp.nodup
  have he:=lv aK (show _∈bm p by unfold bm;exact LL.2 (.inr (iq (·.name) 3 p.funcs 0 i f al)));have hm:(gV p).main=(i:Int):=by
   show jv (bm p) iN=(i:Int)
   simp only[hn,LW] at he;unfold jv;rw[show iN=⟨#[109,97,105,110]⟩ from rfl,he]
  refine⟨eA p f,by rw[hm];omega,?_,?_,?_⟩
  .rw[hm,LZ];show (p.funcs.map (eA p))[i]?=_
   rw[List.getElem?_map,al];rfl
  .show cc f.params=0
   rw[cl];rfl
  .show bQ f.params=0
   rw[cl];rfl
 .show (p.globals.map (·.2)).length<=16
  rw[LG];exact hp.qA
 .obtain⟨k,aj,rfl⟩:=L5.1 aY;exact hp.inits k aj
end Go.Proofs.YtflecliffjbleaaGreat

/- Part 5 of the proof. No condition of its own. -/
import Derived.Test.YtnigabjngpnbiabGreatF04
namespace Go.Proofs.YtnigabjngpnbiabGreat
open Go.RowKit Go.Proofs.Tryz
set_option maxRecDepth 1000000
set_option maxHeartbeats 25600000
set_option linter.unusedVariables false
variable{s:ByteArray}{f:aI}{p:bN}
structure dS where
 name:ByteArray
 kind:Int
 n:Int
def dI(l:List dS)(s:ByteArray):Option dS:=l.find? λe=>decide (e.name=s)
def bL(l:List dS):VE->VE
 | .num n=>.num n
 | .gU s=>match dI l s with
  | some e=>if e.kind=1 then .ij e.n else .loc e.n
  | none=>.loc 0
 | .loc k=>.loc k
 | .ij k=>.ij k
 | .un op x=>.un op (bL l x)
 | .bin op x y=>.bin op (bL l x) (bL l y)
def mG(l:List dS)(r:eY):bO:=
 match dI l r.name with
 | some v=>⟨v.kind == 5,v.n,r.idx.map (bL l)⟩
 | none=>⟨false,0,r.idx.map (bL l)⟩
def jC(l:List dS)(s:ByteArray):Int:=match dI l s with
 | some v=>v.n
 | none=>0
def uS(l:List dS)(s:ByteArray):Int:=match dI l s with
 | some v=>v.kind
 | none=>0
def bW(l:List dS):List dq->List VE
 | []=>[]
 | .ex e::aY=>bL l e::bW l aY
 | .mx _::aY=>bW l aY
def cG(l:List dS):List dq->List bO
 | []=>[]
 | .ex _::aY=>cG l aY
 | .mx r::aY=>mG l r::cG l aY
def ky:bO:=⟨false,0,none⟩
def lV(t:Int)(g:Bool)(e:VE):aA:=⟨1,t,g,some e,ky,[],[]⟩
def lZ(g:Bool)(t:Int)(is:List VE)(ps:List bO):aA:=⟨if g then 3 else 2,t,false,none,ky,is,ps⟩
def qA(u:Bool)(p:bO):aA:=⟨if u then 5 else 4,0,false,none,p,[],[]⟩
def kM(e:VE)(t:Int):aA:=⟨6,t,false,some e,ky,[],[]⟩
def eu(t:Int):aA:=⟨7,t,false,none,ky,[],[]⟩
def nS:aA:=⟨8,0,false,none,ky,[],[]⟩
def gw(c:List aA)(b:Nat)(t:Int):List aA:=c.modify b λx=>{x with target:=t}
def dP:al->List dS->Int->List aA->List aA×Int
 | .nil,_,n,c=>(c,n)
 | .set true s e rest,l,n,c=>dP rest (l++[⟨s,4,n⟩]) (n+1) (c++[lV n false (bL l e)])
 | .set false s e rest,l,n,c=>dP rest l n (c++[lV (jC l s) (uS l s == 1) (bL l e)])
 | .call g s aY rest,l,n,c=>dP rest l n (c++[lZ g (jC l s) (bW l aY) (cG l aY)])
 | .lock u r rest,l,n,c=>dP rest l n (c++[qA u (mG l r)])
 | .ite e th el rest,l,n,c=>
  let p:=dP th l n (c++[kM (bL l e) 0])
  let q:=if el.isNil then (gw p.1 c.length p.1.length,p.2) else
   let k:=dP el l p.2 (gw (p.1++[eu 0]) c.length (p.1.length+1:Nat))
   (gw k.1 p.1.length k.1.length,k.2)
  dP rest l q.2 q.1
 | .gM e th rest,l,n,c=>
  let p:=dP th l n (c++[kM (bL l e) 0])
  dP rest l p.2 (gw (p.1++[eu c.length]) c.length (p.1.length+1:Nat))
 | .ret rest,l,n,c=>dP rest l n (c++[nS])
def iS{α:Type}(f:α->ByteArray)(k:Int):List α->Nat->List dS
 | [],_=>[]
 | x::l,i=>⟨f x,k,i⟩::iS f k l (i+1)
def bp(p:bN):List dS:=iS (·.1) 1 p.globals 0++iS (·.name) 2 p.af 0++iS (·.name) 3 p.funcs 0
def dZ:List (ByteArray×Bool)->Int->Int->List dS
 | [],_,_=>[]
 | (s,true)::l,i,k=>⟨s,5,k⟩::dZ l i (k+1)
 | (s,false)::l,i,k=>⟨s,4,i⟩::dZ l (i+1) k
def cm(ps:List (ByteArray×Bool)):Int:=((ps.filter λq=>!q.2).length:Nat)
def bU(ps:List (ByteArray×Bool)):Int:=((ps.filter λq=>q.2).length:Nat)
def eB(p:bN)(f:aI):cR:=
 let q:=dP f.body (bp p++dZ f.params 0 0) (cm f.params) []
 ⟨f.name,cm f.params,bU f.params,q.2,q.1++[nS]⟩
def iW:ByteArray:=⟨#[109,97,105,110]⟩
def gQ(p:bN):aw:=⟨p.globals.map (·.2),p.af,p.funcs.map (eB p),jC (bp p) iW⟩
def VE.lit:VE->Prop
 | .num n=>0<=n/\n<=9223372036854775807
 | .un _ x=>x.lit
 | .bin _ x y=>x.lit/\y.lit
 | _=>True
structure h2 where
 ng:Nat
 af:List bM
 sig:List (Int×Int)
def fW(U:h2)(nl:Int)(e:VE):Prop:=e.ok U.ng nl.toNat/\e.lit
def cK(U:h2)(nl nk:Int)(p:bO):Prop:=
 (p.param=true/\0<=p.index/\p.index<nk/\p.at_=none)\/
 (p.param=false/\∃m,0<=p.index/\U.af[p.index.toNat]?=some m/\(0<m.size->∃e,p.at_=some e/\fW U nl e)/\(¬0<m.size->p.at_=none))
def ir(U:h2)(nl nk:Int)(len:Nat)(x:aA):Prop:=
 (x.op=1/\(∃e,x.expr=some e/\fW U nl e)/\0<=x.target/\(x.du=true->x.target<U.ng)/\(x.du=false->x.target<nl))\/
 ((x.op=2\/x.op=3)/\x.du=false/\∃s,0<=x.target/\U.sig[x.target.toNat]?=some s/\(x.ints.length:Int)=s.1/\(x.places.length:Int)=s.2/\(∀e∈x.ints,fW U nl e)/\∀p∈x.places,cK U nl nk p)\/
 ((x.op=4\/x.op=5)/\x.du=false/\cK U nl nk x.place)\/
 (x.op=6/\x.du=false/\(∃e,x.expr=some e/\fW U nl e)/\0<=x.target/\x.target<=len)\/
 (x.op=7/\x.du=false/\0<=x.target/\x.target<=len)\/
 (x.op=8/\x.du=false)
structure Sc(U:h2)(G:Env)(l:List dS)(V T:NI)(n nk:Int):Prop where
 vars:∀s∈V,∃e,dI l s=some e/\((e.kind=1/\0<=e.n/\e.n<U.ng)\/(e.kind=4/\0<=e.n/\e.n<n))
 KO:∀m∈G.af,∃e,dI l m.name=some e/\e.kind=2/\0<=e.n/\U.af[e.n.toNat]?=some m
 FC:∀s,(s,true)∈G.params->∃e,dI l s=some e/\e.kind=5/\0<=e.n/\e.n<nk
 fns:∀s ps,(s,ps)∈G.funcs->∃e,dI l s=some e/\e.kind=3/\0<=e.n/\U.sig[e.n.toNat]?=some (cm ps,bU ps)
 taken:∀e∈l,e.name∈T
 n0:0<=n
variable{e:dS}
theorem jU{l:List dS}{x:dS}(h:dI l s=some e):dI (l++[x]) s=some e:=by
 unfold dI at *;rw[List.find?_append,h];rfl
theorem zG{l:List dS}{T:NI}(ht:∀e∈l,e.name∈T)(hs:s∉T)(k n:Int):dI (l++[⟨s,k,n⟩]) s=some ⟨s,k,n⟩:=by
 unfold dI;rw[List.find?_append,List.find?_eq_none.2 (λe he=>by
  simp only[Ny];rintro rfl;exact hs (ht e he))]
 simp
section
variable {U:h2} {G:Env} {l:List dS} {V T:NI} {n a6 nk:Int}
theorem Sc.mono(h:Sc U G l V T n nk)(hn:n<=a6):Sc U G l V T a6 nk:=
 ⟨λs hs=>by obtain⟨e,he,aj⟩:=h.vars s hs;exact⟨e,he,aj.imp id λ⟨a,b,c⟩=>⟨a,b,ad⟩⟩,h.KO,h.FC,h.fns,h.taken,by have:=h.n0;omega⟩
theorem Sc.add(h:Sc U G l V T n nk)(hs:s∉T):Sc U G (l++[⟨s,4,n⟩]) (V++[s]) (T++[s]) (n+1) nk where
 vars:=λx hx=>by
  rcases Nc.1 hx with hx|hx
  .obtain⟨e,he,aj⟩:=h.vars x hx;exact⟨e,jU he,aj.imp id λ⟨a,b,c⟩=>⟨a,b,ad⟩⟩
  .have:x=s:=by simpa using hx
   subst this;exact⟨_,zG h.taken hs 4 n,.inr ⟨rfl,h.n0,by show n<n+1;omega⟩⟩
 KO:=λm hm=>by obtain⟨e,he,r⟩:=h.KO m hm;exact⟨e,jU he,r⟩
 FC:=λx hx=>by obtain⟨e,he,r⟩:=h.FC x hx;exact⟨e,jU he,r⟩
 fns:=λx ps hx=>by obtain⟨e,he,r⟩:=h.fns x ps hx;exact⟨e,jU he,r⟩
 taken:=λe he=>by
  rcases Nc.1 he with he|he
  .exact Nc.2 (.inl (h.taken e he))
  .have:e=⟨s,4,n⟩:=by simpa using he
   subst this;simp
 n0:=by have:=h.n0;omega
end
theorem pG{ng nl a:Nat}(h:nl<=a):∀x:VE,x.ok ng nl->x.ok ng a
 | .num _,_=>trivial
 | .gU _,q=>q.elim
 | .loc k,q=>⟨q.1,by have:=q.2;omega⟩
 | .ij k,q=>q
 | .un _ x,q=>⟨q.1,pG h x q.2⟩
 | .bin _ x y,q=>⟨q.1,pG h x q.2.1,pG h y q.2.2⟩
theorem fW.mono{U:h2}{n a6:Int}{e:VE}(h:fW U n e)(hn:n<=a6):fW U a6 e:=⟨pG (nl:=n.toNat) (a:=a6.toNat) ad e h.1,h.2⟩
theorem cK.mono{U:h2}{n a6 nk:Int}{p:bO}(h:cK U n nk p)(hn:n<=a6):cK U a6 nk p:=
 h.imp id λ⟨a,m,b,c,d,e⟩=>⟨a,m,b,c,λhs=>by obtain⟨x,hx,aj⟩:=d hs;exact⟨x,hx,aj.mono hn⟩,e⟩
theorem ir.mono{U:h2}{n a6 nk:Int}{k F:Nat}{x:aA}(h:ir U n nk k x)(hn:n<=a6)(aj:k<=F):ir U a6 nk F x:=by
 rcases h with⟨ac,⟨e,he,bD⟩,az,aV,aU⟩|⟨ac,aR,s,az,aV,aU,cB,bG,C⟩|⟨ac,aR,az⟩|⟨ac,aR,⟨e,he,bD⟩,az,aV⟩|⟨ac,aR,az,aV⟩|h
 .exact .inl ⟨ac,⟨e,he,bD.mono hn⟩,az,aV,λh=>by have:=aU h;omega⟩
 .exact .inr (.inl ⟨ac,aR,s,az,aV,aU,cB,λe he=>(bG e he).mono hn,λp hp=>(C p hp).mono hn⟩)
 .exact .inr (.inr (.inl ⟨ac,aR,az.mono hn⟩))
 .exact .inr (.inr (.inr (.inl ⟨ac,aR,⟨e,he,bD.mono hn⟩,az,ad⟩)))
 .exact .inr (.inr (.inr (.inr (.inl ⟨ac,aR,az,ad⟩))))
 .exact .inr (.inr (.inr (.inr (.inr h))))
section
variable {U:h2} {G:Env} {l:List dS} {V T:NI} {n nk:Int} (hS:Sc U G l V T n nk)
include hS
theorem iw:∀(d:Nat) (x:VE),x.src V d->fW U n (bL l x)
 | d,.num k,h=>by
  have q:0<=k/\k<4611686018427387904:=by cases d<;>exact h
  exact⟨trivial,by show 0<=k/\k<=9223372036854775807;omega⟩
 | d,.gU s,h=>by
  have q:s∈V:=by cases d<;>exact h
  obtain⟨e,he,aj⟩:=hS.vars s q;have hn:=hS.n0;unfold bL;simp only[he];rcases aj with⟨ac,az,aV⟩|⟨ac,az,aV⟩
  .rw[if_pos ac];exact⟨⟨az,aV⟩,trivial⟩
  .rw[if_neg ad]
   exact⟨⟨az,ad⟩,trivial⟩
 | d,.loc _,h=>by cases d<;>exact h.elim
 | d,.ij _,h=>by cases d<;>exact h.elim
 | 0,.un _ _,h=>h.elim
 | 0,.bin _ _ _,h=>h.elim
 | d+1,.un op x,h=>by
  have aq:=iw d x h.2
  exact⟨⟨h.1,aq.1⟩,aq.2⟩
 | d+1,.bin op x y,h=>by
  have i:=iw d x h.2.1;have c:=iw d y h.2.2;exact⟨⟨h.1,i.1,c.1⟩,i.2,c.2⟩
theorem y2(r:eY)(h:rI G V r):cK U n nk (mG l r):=by
 unfold mG;rcases h with⟨m,hm,hn,ac,az⟩|⟨hp,aN⟩
 .obtain⟨e,he,aj,h0,hu⟩:=hS.KO m hm;rw[<-hn];simp only[he];refine .inr ⟨by simp[aj],m,h0,hu,λhs=>?_,λhs=>by simp[az hs]⟩;obtain⟨x,hx,aw⟩:=ac hs;exact⟨bL l x,by simp[hx],iw hS 2 x aw⟩
 .obtain⟨e,he,aj,h0,ap⟩:=hS.FC _ hp;simp only[he];exact .inl ⟨by simp[aj],h0,ap,by simp[aN]⟩
theorem tp:∀(ps:List (ByteArray×Bool)) (aY:List dq),ix G V ps aY->
  ((bW l aY).length:Int)=cm ps/\((cG l aY).length:Int)=bU ps/\(∀e∈bW l aY,fW U n e)/\∀p∈cG l aY,cK U n nk p
 | [],[],_=>⟨rfl,rfl,λe h=>by simp[bW] at h,λe h=>by simp[cG] at h⟩
 | (s,b)::ps,.mx r::aY,h=>by
  obtain⟨ac,az,aV,aU⟩:=tp ps aY h.2;have O:b=true:=h.1.1;subst O;refine⟨?_,?_,aV,?_⟩
  .simpa[bW,cm] using ac
  .simp only[cG,Nh,bU] at az ⊢;simp;omega
  .intro p hp;simp only[cG,Nk] at hp;rcases hp with rfl|hp
   .exact y2 hS r h.1.2
   .exact aU p hp
 | (s,b)::ps,.ex e::aY,h=>by
  obtain⟨ac,az,aV,aU⟩:=tp ps aY h.2;have O:b=false:=h.1.1;subst O;refine⟨?_,?_,?_,aU⟩
  .simp only[bW,Nh,cm] at ac ⊢;simp;omega
  .simpa[cG,bU] using az
  .intro p hp;simp only[bW,Nk] at hp;rcases hp with rfl|hp
   .exact iw hS 2 e h.1.2
   .exact aV p hp
 | [],_::_,h=>h.elim
 | _::_,[],h=>h.elim
end
theorem pM(a:List aA)(x:aA)(b:List aA)(t:Int):gw (a++x::b) a.length t=a++{x with target:=t}::b:=by
 unfold gw
 induction a with
 | nil=>rfl
 | cons y a aq=>simp only[Nj,Nh,List.modify_succ_cons,aq]
structure Am(U:h2)(nk n:Int)(c:List aA)(num:Nat)(r:List aA×Int):Prop where
 ex:∃s,r.1=c++s/\s.length<=2*num/\∀x∈s,ir U r.2 nk r.1.length x
 le:n<=r.2
 ge:r.2<=n+num
theorem Am.step{U:h2}{nk n a6:Int}{c m:List aA}{k num:Nat}{r:List aA×Int}(hm:m.length<=2*k)(ca:∀x∈m,ir U a6 nk (c++m).length x)(hn:n<=a6)(cE:a6<=n+k)(h:Am U nk a6 (c++m) num r):Am U nk n c (num+k) r:=by
 obtain⟨⟨s,hs,hl,aj⟩,hle,bd⟩:=h;refine⟨⟨m++s,by rw[hs,Ni],by simp;omega,λx hx=>?_⟩,ad,ad⟩;rcases Nc.1 hx with hx|hx
 .exact(ca x hx).mono hle (by rw[hs];simp)
 .exact aj x hx
theorem ee{U:h2}{G:Env}{nk:Int}:∀(b:al) (d:Nat) (l:List dS) (V T:NI) (n:Int) (c:List aA),eX G d V T b->Sc U G l V T n nk->Am U nk n c b.num (dP b l n c)
 | .nil,d,l,V,T,n,c,_,_=>⟨⟨[],by simp[dP],by simp,λx h=>by simp at h⟩,Int.le_refl _,by simp[dP,al.num]⟩
 | .set true s e rest,d,l,V,T,n,c,h,hS=>by
  have q:bB s.data.toList=true/\s∉T/\e.src V 2/\eX G d (V++[s]) (T++[s]) rest:=by cases d<;>exact h
  have aq:=ee rest d _ _ _ (n+1) (c++[lV n false (bL l e)]) q.2.2.2 (hS.add q.2.1);refine Am.step (m:=[lV n false (bL l e)]) (k:=1) (by simp) (λx hx=>?_) ad ad aq;have:x=lV n false (bL l e):=by simpa using hx
  subst this
  exact .inl ⟨rfl,⟨_,rfl,(iw hS 2 e q.2.2.1).mono ad⟩,hS.n0,(λh=>by cases h),λ_=>by show n<n+1;omega⟩
 | .set false s e rest,d,l,V,T,n,c,h,hS=>by
  have q:s∈V/\e.src V 2/\eX G d V T rest:=by cases d<;>exact h
  have aq:=ee rest d _ _ _ n (c++[lV (jC l s) (uS l s == 1) (bL l e)]) q.2.2 hS;refine Am.step (m:=[lV (jC l s) (uS l s == 1) (bL l e)]) (k:=1) (by simp) (λx hx=>?_) (Int.le_refl _) ad aq;have:x=lV (jC l s) (uS l s == 1) (bL l e):=by simpa using hx
  subst this;obtain⟨v,bK,aj⟩:=hS.vars s q.1;have e1:jC l s=v.n:=by simp[jC,bK]
  have e2:uS l s=v.kind:=by simp[uS,bK]
  rw[e1,e2];refine .inl ⟨rfl,⟨_,rfl,iw hS 2 e q.2.1⟩,?_,λaR=>?_,λaR=>?_⟩
  .show 0<=v.n;omega
  .have j:v.kind=1:=by simpa[lV] using aR
   show v.n<_
   omega
  .have j:¬v.kind=1:=by simpa[lV] using aR
   show v.n<n
   omega
 | .call g s aY rest,d,l,V,T,n,c,h,hS=>by
  have q:(∃ps,(s,ps)∈G.funcs/\ix G V ps aY)/\eX G d V T rest:=by cases d<;>exact h
  obtain⟨⟨ps,J,has⟩,ba⟩:=q;have aq:=ee rest d _ _ _ n (c++[lZ g (jC l s) (bW l aY) (cG l aY)]) ba hS;refine Am.step (m:=[lZ g (jC l s) (bW l aY) (cG l aY)]) (k:=1) (by simp) (λx hx=>?_) (Int.le_refl _) ad aq;have:x=lZ g (jC l s) (bW l aY) (cG l aY):=by simpa using hx
  subst this;obtain⟨v,bK,_,h0,hu⟩:=hS.fns s ps J;have e1:jC l s=v.n:=by simp[jC,bK]
  obtain⟨i,y,a3,a4⟩:=tp hS ps aY has;rw[e1]
  exact .inr (.inl ⟨by cases g<;>simp[lZ],rfl,_,h0,hu,i,y,a3,a4⟩)
 | .lock u r rest,d,l,V,T,n,c,h,hS=>by
  have q:rI G V r/\eX G d V T rest:=by cases d<;>exact h
  have aq:=ee rest d _ _ _ n (c++[qA u (mG l r)]) q.2 hS;refine Am.step (m:=[qA u (mG l r)]) (k:=1) (by simp) (λx hx=>?_) (Int.le_refl _) ad aq;have:x=qA u (mG l r):=by simpa using hx
  subst this
  exact .inr (.inr (.inl ⟨by cases u<;>simp[qA],rfl,y2 hS r q.1⟩))
 | .ret rest,d,l,V,T,n,c,h,hS=>by
  have q:eX G d V T rest:=by cases d<;>exact h
  have aq:=ee rest d _ _ _ n (c++[nS]) q hS;refine Am.step (m:=[nS]) (k:=1) (by simp) (λx hx=>?_) (Int.le_refl _) ad aq;have:x=nS:=by simpa using hx
  subst this
  exact .inr (.inr (.inr (.inr (.inr ⟨rfl,rfl⟩))))
 | .ite e th el rest,0,l,V,T,n,c,h,hS=>h.elim
 | .gM e th rest,0,l,V,T,n,c,h,hS=>h.elim
 | .ite e th el rest,d+1,l,V,T,n,c,h,hS=>by
  have i1:=ee th d l V T n (c++[kM (bL l e) 0]) h.2.1 hS;have aF:=iw hS 2 e h.1;unfold dP;simp only[];generalize dP th l n (c++[kM (bL l e) 0])=p at *;obtain⟨⟨s1,cn,cv,ce⟩,a5,dh⟩:=i1;obtain⟨aV,n1⟩:=p;simp only[] at *;have a:aV=c++kM (bL l e) 0::s1:=by rw[cn];simp
  cases hn:el.isNil with
  | true=>
   simp only[if_true];have L:gw aV c.length aV.length=c++kM (bL l e) aV.length::s1:=by
    generalize (aV.length:Int)=t;rw[a];exact pM c _ s1 t
   rw[L];have i3:=ee rest (d+1) l V T n1 (c++kM (bL l e) aV.length::s1) h.2.2.2 (hS.mono a5);have hlen:aV.length=c.length+s1.length+1:=by rw[a];simp;omega
   have:=Am.step (k:=th.num+el.num+1) (n:=n) (m:=kM (bL l e) aV.length::s1) (by simp;omega) (λx hx=>?_) a5 ad i3
   .rw[show (al.ite e th el rest).num=rest.num+(th.num+el.num+1) by simp only[al.num];omega];exact this
   .rcases Nk.1 hx with rfl|hx
    .exact .inr (.inr (.inr (.inl ⟨rfl,rfl,⟨_,rfl,aF.mono a5⟩,by show (0:Int)<=(aV.length:Int);omega,by show (aV.length:Int)<=_;rw[hlen];simp;omega⟩)))
    .exact(ce x hx).mono (Int.le_refl _) (by rw[hlen];simp;omega)
  | false=>
   simp only[Nz,if_false];have L:gw (aV++[eu 0]) c.length (aV.length+1:Nat)=c++kM (bL l e) (aV.length+1:Nat)::(s1++[eu 0]):=by
    generalize ((aV.length+1:Nat):Int)=t;rw[a,Ni,Nj];exact pM c _ _ t
   have hlen:aV.length=c.length+s1.length+1:=by rw[a];simp;omega
   rw[L];have i2:=ee el d l V T n1 (c++kM (bL l e) (aV.length+1:Nat)::(s1++[eu 0])) h.2.2.1 (hS.mono a5);generalize dP el l n1 (c++kM (bL l e) (aV.length+1:Nat)::(s1++[eu 0]))=k at *;obtain⟨⟨s2,bO,cm,cK⟩,fz,fy⟩:=i2;obtain⟨cw,n2⟩:=k;simp only[] at *;have o:cw=(c++kM (bL l e) (aV.length+1:Nat)::s1)++eu 0::s2:=by rw[bO];simp
   have w:gw cw aV.length cw.length=(c++kM (bL l e) (aV.length+1:Nat)::s1)++eu cw.length::s2:=by
    have bo:aV.length=(c++kM (bL l e) (aV.length+1:Nat)::s1).length:=by rw[hlen];simp;omega
    generalize (cw.length:Int)=t;rw[o,congrArg (gw _) bo];exact pM _ _ s2 t
   have f:cw.length=c.length+s1.length+s2.length+2:=by rw[o];simp;omega
   rw[w,Ni,Nj];have i3:=ee rest (d+1) l V T n2 (c++kM (bL l e) (aV.length+1:Nat)::(s1++eu cw.length::s2)) h.2.2.2 (hS.mono ad);have:=Am.step (k:=th.num+el.num+1) (n:=n) (m:=kM (bL l e) (aV.length+1:Nat)::(s1++eu cw.length::s2)) (by simp;omega) (λx hx=>?_) ad ad i3
   .rw[show (al.ite e th el rest).num=rest.num+(th.num+el.num+1) by simp only[al.num];omega];exact this
   .rcases Nk.1 hx with rfl|hx
    .exact .inr (.inr (.inr (.inl ⟨rfl,rfl,⟨_,rfl,aF.mono ad⟩,by show (0:Int)<=((aV.length+1:Nat):Int);omega,by show ((aV.length+1:Nat):Int)<=_;rw[hlen];simp;omega⟩)))
    .rcases Nc.1 hx with hx|hx
     .exact(ce x hx).mono ad (by rw[hlen];simp;omega)
     .rcases Nk.1 hx with rfl|hx
      .exact .inr (.inr (.inr (.inr (.inl ⟨rfl,rfl,by show (0:Int)<=(cw.length:Int);omega,by show (cw.length:Int)<=_;rw[f];simp;omega⟩))))
      .exact(cK x hx).mono (Int.le_refl _) (by rw[f];simp;omega)
 | .gM e th rest,d+1,l,V,T,n,c,h,hS=>by
  have i1:=ee th d l V T n (c++[kM (bL l e) 0]) h.2.1 hS;have aF:=iw hS 2 e h.1;unfold dP;simp only[];generalize dP th l n (c++[kM (bL l e) 0])=p at *;obtain⟨⟨s1,cn,cv,ce⟩,a5,dh⟩:=i1;obtain⟨aV,n1⟩:=p;simp only[] at *;have a:aV=c++kM (bL l e) 0::s1:=by rw[cn];simp
  have hlen:aV.length=c.length+s1.length+1:=by rw[a];simp;omega
  have L:gw (aV++[eu c.length]) c.length (aV.length+1:Nat)=c++kM (bL l e) (aV.length+1:Nat)::(s1++[eu c.length]):=by
   generalize ((aV.length+1:Nat):Int)=t;rw[a,Ni,Nj];exact pM c _ _ t
  rw[L];have i3:=ee rest (d+1) l V T n1 (c++kM (bL l e) (aV.length+1:Nat)::(s1++[eu c.length])) h.2.2 (hS.mono a5);have:=Am.step (k:=th.num+1) (n:=n) (m:=kM (bL l e) (aV.length+1:Nat)::(s1++[eu c.length])) (by simp;omega) (λx hx=>?_) a5 ad i3
  .rw[show (al.gM e th rest).num=rest.num+(th.num+1) by simp only[al.num];omega];exact this
  .rcases Nk.1 hx with rfl|hx
   .exact .inr (.inr (.inr (.inl ⟨rfl,rfl,⟨_,rfl,aF.mono a5⟩,by show (0:Int)<=((aV.length+1:Nat):Int);omega,by show ((aV.length+1:Nat):Int)<=_;rw[hlen];simp;omega⟩)))
   .rcases Nc.1 hx with hx|hx
    .exact(ce x hx).mono (Int.le_refl _) (by rw[hlen];simp;omega)
    .have:x=eu c.length:=by simpa using hx
     subst this;exact .inr (.inr (.inr (.inr (.inl ⟨rfl,rfl,by show (0:Int)<=(c.length:Int);omega,by show (c.length:Int)<=_;simp;omega⟩))))
theorem lB{l:List dS}(hn:(l.map (·.name)).Nodup)(he:e∈l):dI l e.name=some e:=by
 induction l with
 | nil=>simp at he
 | cons x l aq=>
  simp only[M7,List.nodup_cons] at hn;unfold dI at *;rcases Nk.1 he with rfl|he
  .simp
  .rw[List.find?_cons_of_neg,aq hn.2 he];simp only[Ny];intro hx;exact hn.1 (by rw[hx];exact Ns.2 ⟨e,he,rfl⟩)
theorem oD{α:Type}(f:α->ByteArray)(k:Int):∀(l:List α) (i:Nat),(iS f k l i).map (·.name)=l.map f
 | [],_=>rfl
 | x::l,i=>by simp only[iS,M7,oD f k l (i+1)]
theorem iB{α:Type}(f:α->ByteArray)(k:Int):∀(l:List α) (i j:Nat) (x:α),l[j]?=some x->⟨f x,k,((i+j:Nat):Int)⟩∈iS f k l i
 | [],i,j,x,h=>by simp at h
 | y::l,i,0,x,h=>by
  simp only[List.getElem?_cons_zero,Nw] at h;subst h
  simp[iS]
 | y::l,i,j+1,x,h=>by
  simp only[List.getElem?_cons_succ] at h;have:=iB f k l (i+1) j x h;rw[show i+1+j=i+(j+1) by omega] at this;rw[iS];exact List.mem_cons_of_mem _ this
theorem gg:∀(ps:List (ByteArray×Bool)) (i k:Int),(dZ ps i k).map (·.name)=ps.map (·.1)
 | [],_,_=>rfl
 | (s,true)::l,i,k=>by simp only[dZ,M7,gg l]
 | (s,false)::l,i,k=>by simp only[dZ,M7,gg l]
theorem g6(s:ByteArray)(b:Bool)(ps:List (ByteArray×Bool)):cm ((s,b)::ps)=cm ps+(if b then 0 else 1)/\bU ((s,b)::ps)=bU ps+(if b then 1 else 0):=by
 cases b<;>simp[cm,bU]
theorem iX(ps:List (ByteArray×Bool)):0<=cm ps/\0<=bU ps:=⟨Int.natCast_nonneg _,Int.natCast_nonneg _⟩
theorem n7:∀(ps:List (ByteArray×Bool)) (i k:Int) (s:ByteArray),(s,true)∈ps->∃e∈dZ ps i k,e.name=s/\e.kind=5/\k<=e.n/\e.n<k+bU ps
 | [],_,_,s,h=>by simp at h
 | (x,b)::l,i,k,s,h0=>by
  have hc:=(g6 x b l).2;have bH:=(iX l).2;rcases Nk.1 h0 with h|h
  .injection h with ac az;subst ac az;rw[hc];exact⟨⟨s,5,k⟩,by simp[dZ],rfl,rfl,Int.le_refl _,by simp;omega⟩
  .cases b with
   | true=>
    obtain⟨e,he,ac,az,aV,aU⟩:=n7 l i (k+1) s h;rw[hc]
    exact⟨e,by simp[dZ,he],ac,az,ad,by simp;omega⟩
   | false=>
    obtain⟨e,he,ac,az,aV,aU⟩:=n7 l (i+1) k s h;rw[hc];exact⟨e,by simp[dZ,he],ac,az,ad,by simp;omega⟩
theorem qU:∀(ps:List (ByteArray×Bool)) (i k:Int) (s:ByteArray),(s,false)∈ps->∃e∈dZ ps i k,e.name=s/\e.kind=4/\i<=e.n/\e.n<i+cm ps
 | [],_,_,s,h=>by simp at h
 | (x,b)::l,i,k,s,h0=>by
  have hc:=(g6 x b l).1;have bH:=(iX l).1;rcases Nk.1 h0 with h|h
  .injection h with ac az;subst ac az;rw[hc];exact⟨⟨s,4,i⟩,by simp[dZ],rfl,rfl,Int.le_refl _,by simp;omega⟩
  .cases b with
   | true=>
    obtain⟨e,he,ac,az,aV,aU⟩:=qU l i (k+1) s h;rw[hc]
    exact⟨e,by simp[dZ,he],ac,az,ad,by simp;omega⟩
   | false=>
    obtain⟨e,he,ac,az,aV,aU⟩:=qU l (i+1) k s h;rw[hc];exact⟨e,by simp[dZ,he],ac,az,ad,by simp;omega⟩
theorem gi(p:bN):(bp p).map (·.name)=bm p:=by
 simp only[bp,bm,fZ,Na,oD]
def bg(u:aw):h2:=⟨u.globals.length,u.af,u.procs.map λp=>(p.ints,p.az)⟩
structure qX(U:h2)(p:cR):Prop where
 ints:0<=p.ints/\p.ints<=p.locals/\p.locals<=200
 az:0<=p.az/\p.az<=100
 code:∃s,p.code=s++[nS]/\s.length<=200/\∀x∈s,ir U p.locals p.az s.length x
structure cT(u:aw):Prop where
 procs:∀p∈u.procs,qX (bg u) p
 IJ:u.procs.length<=16
 main:∃p,0<=u.main/\u.procs[u.main.toNat]?=some p/\p.ints=0/\p.az=0
 zX:u.af.length<=12
 gV:∀m∈u.af,0<=m.size/\m.size<=64
 qM:u.globals.length<=16
 globals:∀g∈u.globals,-9223372036854775807<=g/\g<=9223372036854775807
theorem oT(p:bN):bg (gQ p)=⟨p.globals.length,p.af,p.funcs.map λf=>(cm f.params,bU f.params)⟩:=by
 simp only[bg,gQ,M5,List.map_map];rfl
theorem vN(hp:pe p)(J:f∈p.funcs):
  Sc (bg (gQ p)) (fG p f) (bp p++dZ f.params 0 0) (fZ p++cH f.params) (bm p++f.params.map (·.1)) (cm f.params) (bU f.params):=by
 have hF:=hp.funcs f J;have bb:((bp p++dZ f.params 0 0).map (·.name)).Nodup:=by
  rw[Na,gi,gg];exact hF.fresh
 have a1:=λe (he:e∈bp p++dZ f.params 0 0)=>lB bb he;rw[oT];constructor
 .intro s hs;rcases Nc.1 hs with hs|hs
  .obtain⟨g,aR,rfl⟩:=Ns.1 hs;obtain⟨i,aN⟩:=List.getElem?_of_mem aR;have:=a1 _ (Nc.2 (.inl (by unfold bp;exact Nc.2 (.inl (Nc.2 (.inl (iB (·.1) 1 p.globals 0 i g aN)))))));refine⟨_,this,.inl ⟨rfl,by show (0:Int)<=((0+i:Nat):Int);omega,?_⟩⟩;have:=(List.getElem?_eq_some_iff.1 aN).1;show ((0+i:Nat):Int)<(p.globals.length:Int)
   omega
  .obtain⟨⟨q,b⟩,bv,rfl⟩:=Ns.1 hs;obtain⟨fb,eE⟩:=List.mem_filter.1 bv;have O:b=false:=by simpa using eE
   subst O;obtain⟨e,he,ac,az,aV,aU⟩:=qU f.params 0 0 q fb;have:=a1 e (Nc.2 (.inr he));rw[ac] at this;exact⟨e,this,.inr ⟨az,aV,ad⟩⟩
 .intro m hm;obtain⟨i,aN⟩:=List.getElem?_of_mem hm;have:=a1 _ (Nc.2 (.inl (by unfold bp;exact Nc.2 (.inl (Nc.2 (.inr (iB (·.name) 2 p.af 0 i m aN)))))));refine⟨_,this,rfl,by show (0:Int)<=((0+i:Nat):Int);omega,?_⟩;show p.af[(((0+i:Nat):Int)).toNat]?=some m
  rw[Np,Nm];exact aN
 .intro s hs;obtain⟨e,he,ac,az,aV,aU⟩:=n7 f.params 0 0 s hs;have:=a1 e (Nc.2 (.inr he));rw[ac] at this;exact⟨e,this,az,aV,ad⟩
 .intro s ps hs;obtain⟨g,aR,bB⟩:=Ns.1 hs;injection bB with aY ao;subst aY ao;obtain⟨i,aN⟩:=List.getElem?_of_mem aR;have:=a1 _ (Nc.2 (.inl (by unfold bp;exact Nc.2 (.inr (iB (·.name) 3 p.funcs 0 i g aN)))));refine⟨_,this,rfl,by show (0:Int)<=((0+i:Nat):Int);omega,?_⟩;show (p.funcs.map λf=>(cm f.params,bU f.params))[(((0+i:Nat):Int)).toNat]?=_
  rw[Np,Nm,List.getElem?_map,aN];rfl
 .intro e he;have:e.name∈(bp p++dZ f.params 0 0).map (·.name):=Ns.2 ⟨e,he,rfl⟩;rw[Na,gi,gg] at this;exact this
 .exact(iX _).1
theorem jE{α:Type}(g:α->Nat){l:List α}{x:α}(h:x∈l):g x<=(l.map g).sum:=by
 induction l with
 | nil=>simp at h
 | cons y l aq=>
  simp only[M7,List.sum_cons];rcases Nk.1 h with rfl|h
  .omega
  .have:=aq h;omega
theorem m6(ps:List (ByteArray×Bool)):cm ps<=ps.length/\bU ps<=ps.length:=by
 unfold cm bU;have ac:=List.length_filter_le (λq:ByteArray×Bool=>!q.2) ps;have az:=List.length_filter_le (λq:ByteArray×Bool=>q.2) ps;omega
theorem G9(hp:pe p)(J:f∈p.funcs):qX (bg (gQ p)) (eB p f):=by
 have hF:=hp.funcs f J;obtain⟨⟨s,hs,hl,aj⟩,hle,bd⟩:=ee f.body 4 _ _ _ (cm f.params) [] hF.body (vN hp J);have K:f.body.num<=64:=Nl (jE (λf:aI=>f.body.num) J) hp.jo;have L:=hF.jo;have hn:=m6 f.params;have bH:=iX f.params;refine⟨⟨bH.1,hle,?_⟩,⟨bH.2,?_⟩,?_⟩
 .show (dP f.body (bp p++dZ f.params 0 0) (cm f.params) []).2<=200
  omega
 .show bU f.params<=100
  omega
 .refine⟨(dP f.body (bp p++dZ f.params 0 0) (cm f.params) []).1,rfl,?_,?_⟩
  .rw[hs];simp;omega
  .intro x hx;have g:x∈s:=by rw[hs] at hx;simpa using hx
   exact aj x g
theorem tK(hp:pe p):cT (gQ p):=by
 refine⟨λq bv=>?_,?_,?_,hp.zX,λm hm=>⟨(hp.gV m hm).1,(hp.gV m hm).2.1⟩,?_,λg aR=>?_⟩
 .obtain⟨f,J,rfl⟩:=Ns.1 bv;exact G9 hp J
 .show (p.funcs.map (eB p)).length<=16
  rw[M5];exact hp.Hc
 .obtain⟨i,f,aN,hn,cc⟩:=hp.main;have bb:((bp p).map (·.name)).Nodup:=by rw[gi];exact hp.nodup
  have he:=lB bb (show _∈bp p by unfold bp;exact Nc.2 (.inr (iB (·.name) 3 p.funcs 0 i f aN)));have hm:(gQ p).main=(i:Int):=by
   show jC (bp p) iW=(i:Int)
   simp only[hn,Nm] at he;unfold jC;rw[show iW=⟨#[109,97,105,110]⟩ from rfl,he]
  refine⟨eB p f,by rw[hm];omega,?_,?_,?_⟩
  .rw[hm,Np];show (p.funcs.map (eB p))[i]?=_
   rw[List.getElem?_map,aN];rfl
  .show cm f.params=0
   rw[cc];rfl
  .show bU f.params=0
   rw[cc];rfl
 .show (p.globals.map (·.2)).length<=16
  rw[M5];exact hp.qM
 .obtain⟨k,aj,rfl⟩:=Ns.1 aR;exact hp.inits k aj
end Go.Proofs.YtnigabjngpnbiabGreat

/- Part 7 of the proof. No condition of its own. -/
import Derived.Test.YtnhhdaggkiomoaaGreatQ06
namespace Go.Proofs.YtnhhdaggkiomoaaGreat
open Go.RowKit Go.Proofs.Tryz
set_option maxRecDepth 1000000
set_option maxHeartbeats 25600000
set_option linter.unusedVariables false
variable{s:ByteArray}{f:aK}{p:bM}
structure dL where
 name:ByteArray
 kind:Int
 n:Int
def dB(l:List dL)(s:ByteArray):Option dL:=l.find? fun e=>decide (e.name=s)
def bL(l:List dL):VE→VE
 | .num n=>.num n
 | .g0 s=>match dB l s with
  | some e=>if e.kind=1 then .iC e.n else .loc e.n
  | none=>.loc 0
 | .loc k=>.loc k
 | .iC k=>.iC k
 | .un op x=>.un op (bL l x)
 | .bin op x y=>.bin op (bL l x) (bL l y)
def l6(l:List dL)(r:eO):bR:=
 match dB l r.name with
 | some v=>⟨v.kind == 5,v.n,r.idx.map (bL l)⟩
 | none=>⟨false,0,r.idx.map (bL l)⟩
def jh(l:List dL)(s:ByteArray):Int:=match dB l s with
 | some v=>v.n
 | none=>0
def tH(l:List dL)(s:ByteArray):Int:=match dB l s with
 | some v=>v.kind
 | none=>0
def bT(l:List dL):List dn→List VE
 | []=>[]
 | .ex e::a1=>bL l e::bT l a1
 | .mx _::a1=>bT l a1
def cB(l:List dL):List dn→List bR
 | []=>[]
 | .ex _::a1=>cB l a1
 | .mx r::a1=>l6 l r::cB l a1
def j9:bR:=⟨false,0,none⟩
def ll(t:Int)(g:Bool)(e:VE):az:=⟨1,t,g,some e,j9,[],[]⟩
def lu(g:Bool)(t:Int)(is:List VE)(ps:List bR):az:=⟨if g then 3 else 2,t,false,none,j9,is,ps⟩
def pS(u:Bool)(p:bR):az:=⟨if u then 5 else 4,0,false,none,p,[],[]⟩
def kk(e:VE)(t:Int):az:=⟨6,t,false,some e,j9,[],[]⟩
def ej(t:Int):az:=⟨7,t,false,none,j9,[],[]⟩
def nj:az:=⟨8,0,false,none,j9,[],[]⟩
def fW(c:List az)(b:Nat)(t:Int):List az:=c.modify b fun x=>{x with target:=t}
def dI:an→List dL→Int→List az→List az×Int
 | .nil,_,n,c=>(c,n)
 | .set true s e rest,l,n,c=>dI rest (l++[⟨s,4,n⟩]) (n+1) (c++[ll n false (bL l e)])
 | .set false s e rest,l,n,c=>dI rest l n (c++[ll (jh l s) (tH l s == 1) (bL l e)])
 | .call g s a1 rest,l,n,c=>dI rest l n (c++[lu g (jh l s) (bT l a1) (cB l a1)])
 | .lock u r rest,l,n,c=>dI rest l n (c++[pS u (l6 l r)])
 | .ite e th el rest,l,n,c=>
  let p:=dI th l n (c++[kk (bL l e) 0])
  let q:=if el.isNil then (fW p.1 c.length p.1.length,p.2) else
   let k:=dI el l p.2 (fW (p.1++[ej 0]) c.length (p.1.length+1:Nat))
   (fW k.1 p.1.length k.1.length,k.2)
  dI rest l q.2 q.1
 | .gv e th rest,l,n,c=>
  let p:=dI th l n (c++[kk (bL l e) 0])
  dI rest l p.2 (fW (p.1++[ej c.length]) c.length (p.1.length+1:Nat))
 | .ret rest,l,n,c=>dI rest l n (c++[nj])
def iB{α:Type}(f:α→ByteArray)(k:Int):List α→Nat→List dL
 | [],_=>[]
 | x::l,i=>⟨f x,k,i⟩::iB f k l (i+1)
def bo(p:bM):List dL:=iB (·.1) 1 p.globals 0++iB (·.name) 2 p.af 0++iB (·.name) 3 p.funcs 0
def dQ:List (ByteArray×Bool)→Int→Int→List dL
 | [],_,_=>[]
 | (s,true)::l,i,k=>⟨s,5,k⟩::dQ l i (k+1)
 | (s,false)::l,i,k=>⟨s,4,i⟩::dQ l (i+1) k
def cc(ps:List (ByteArray×Bool)):Int:=((ps.filter fun q=>!q.2).length:Nat)
def bS(ps:List (ByteArray×Bool)):Int:=((ps.filter fun q=>q.2).length:Nat)
def et(p:bM)(f:aK):cJ:=
 let q:=dI f.body (bo p++dQ f.params 0 0) (cc f.params) []
 ⟨f.name,cc f.params,bS f.params,q.2,q.1++[nj]⟩
def iG:ByteArray:=⟨#[109,97,105,110]⟩
def gi(p:bM):ay:=⟨p.globals.map (·.2),p.af,p.funcs.map (et p),jh (bo p) iG⟩
def VE.lit:VE→Prop
 | .num n=>0≤n∧n≤9223372036854775807
 | .un _ x=>x.lit
 | .bin _ x y=>x.lit∧y.lit
 | _=>True
structure ho where
 ng:Nat
 af:List bI
 sig:List (Int×Int)
def gd(U:ho)(nl:Int)(e:VE):Prop:=e.ok U.ng nl.toNat∧e.lit
def cU(U:ho)(nl nk:Int)(p:bR):Prop:=
 (p.param=true∧0≤p.index∧p.index<nk∧p.at_=none)∨
 (p.param=false∧∃m,0≤p.index∧U.af[p.index.toNat]?=some m∧(0<m.size→∃e,p.at_=some e∧gd U nl e)∧(¬0<m.size→p.at_=none))
def h2(U:ho)(nl nk:Int)(len:Nat)(x:az):Prop:=
 (x.op=1∧(∃e,x.expr=some e∧gd U nl e)∧0≤x.target∧(x.dg=true→x.target<U.ng)∧(x.dg=false→x.target<nl))∨
 ((x.op=2∨x.op=3)∧x.dg=false∧∃s,0≤x.target∧U.sig[x.target.toNat]?=some s∧(x.ints.length:Int)=s.1∧(x.places.length:Int)=s.2∧(∀e∈x.ints,gd U nl e)∧∀p∈x.places,cU U nl nk p)∨
 ((x.op=4∨x.op=5)∧x.dg=false∧cU U nl nk x.place)∨
 (x.op=6∧x.dg=false∧(∃e,x.expr=some e∧gd U nl e)∧0≤x.target∧x.target≤len)∨
 (x.op=7∧x.dg=false∧0≤x.target∧x.target≤len)∨
 (x.op=8∧x.dg=false)
structure Sc(U:ho)(G:Env)(l:List dL)(V T:Lt)(n nk:Int):Prop where
 vars:∀s∈V,∃e,dB l s=some e∧((e.kind=1∧0≤e.n∧e.n<U.ng)∨(e.kind=4∧0≤e.n∧e.n<n))
 IF:∀m∈G.af,∃e,dB l m.name=some e∧e.kind=2∧0≤e.n∧U.af[e.n.toNat]?=some m
 D7:∀s,(s,true)∈G.params→∃e,dB l s=some e∧e.kind=5∧0≤e.n∧e.n<nk
 fns:∀s ps,(s,ps)∈G.funcs→∃e,dB l s=some e∧e.kind=3∧0≤e.n∧U.sig[e.n.toNat]?=some (cc ps,bS ps)
 taken:∀e∈l,e.name∈T
 n0:0≤n
variable{e:dL}
theorem jz{l:List dL}{x:dL}(h:dB l s=some e):dB (l++[x]) s=some e:=by
 unfold dB at *;rw[List.find?_append,h];rfl
theorem yl{l:List dL}{T:Lt}(ht:∀e∈l,e.name∈T)(hs:s∉T)(k n:Int):dB (l++[⟨s,k,n⟩]) s=some ⟨s,k,n⟩:=by
 unfold dB;rw[List.find?_append,List.find?_eq_none.2 (fun e he=>by
  simp only[Ll];rintro rfl;exact hs (ht e he))]
 simp
section
variable {U:ho} {G:Env} {l:List dL} {V T:Lt} {n aP nk:Int}
theorem Sc.mono(h:Sc U G l V T n nk)(hn:n≤aP):Sc U G l V T aP nk:=
 ⟨fun s hs=>by obtain⟨e,he,ap⟩:=h.vars s hs;exact⟨e,he,ap.imp id fun ⟨a,b,c⟩=>⟨a,b,ad⟩⟩,h.IF,h.D7,h.fns,h.taken,by have:=h.n0;omega⟩
theorem Sc.add(h:Sc U G l V T n nk)(hs:s∉T):Sc U G (l++[⟨s,4,n⟩]) (V++[s]) (T++[s]) (n+1) nk where
 vars:=fun x hx=>by
  rcases KP.1 hx with hx|hx
  ·obtain⟨e,he,ap⟩:=h.vars x hx;exact⟨e,jz he,ap.imp id fun ⟨a,b,c⟩=>⟨a,b,ad⟩⟩
  ·have:x=s:=by simpa using hx
   subst this;exact⟨_,yl h.taken hs 4 n,.inr ⟨rfl,h.n0,by show n<n+1;omega⟩⟩
 IF:=fun m hm=>by obtain⟨e,he,r⟩:=h.IF m hm;exact⟨e,jz he,r⟩
 D7:=fun x hx=>by obtain⟨e,he,r⟩:=h.D7 x hx;exact⟨e,jz he,r⟩
 fns:=fun x ps hx=>by obtain⟨e,he,r⟩:=h.fns x ps hx;exact⟨e,jz he,r⟩
 taken:=fun e he=>by
  rcases KP.1 he with he|he
  ·exact KP.2 (.inl (h.taken e he))
  ·have:e=⟨s,4,n⟩:=by simpa using he
   subst this;simp
 n0:=by have:=h.n0;omega
end
theorem oP{ng nl a:Nat}(h:nl≤a):∀x:VE,x.ok ng nl→x.ok ng a
 | .num _,_=>trivial
 | .g0 _,F=>F.elim
 | .loc k,F=>⟨F.1,by have:=F.2;omega⟩
 | .iC k,F=>F
 | .un _ x,F=>⟨F.1,oP h x F.2⟩
 | .bin _ x y,F=>⟨F.1,oP h x F.2.1,oP h y F.2.2⟩
theorem gd.mono{U:ho}{n aP:Int}{e:VE}(h:gd U n e)(hn:n≤aP):gd U aP e:=⟨oP (nl:=n.toNat) (a:=aP.toNat) ad e h.1,h.2⟩
theorem cU.mono{U:ho}{n aP nk:Int}{p:bR}(h:cU U n nk p)(hn:n≤aP):cU U aP nk p:=
 h.imp id fun ⟨a,m,b,c,d,e⟩=>⟨a,m,b,c,fun hs=>by obtain⟨x,hx,ap⟩:=d hs;exact⟨x,hx,ap.mono hn⟩,e⟩
theorem h2.mono{U:ho}{n aP nk:Int}{k F:Nat}{x:az}(h:h2 U n nk k x)(hn:n≤aP)(ap:k≤F):h2 U aP nk F x:=by
 rcases h with⟨ac,⟨e,he,bn⟩,av,aV,bz⟩|⟨ac,a2,s,av,aV,bz,cm,aY,g⟩|⟨ac,a2,av⟩|⟨ac,a2,⟨e,he,bn⟩,av,aV⟩|⟨ac,a2,av,aV⟩|h
 ·exact .inl ⟨ac,⟨e,he,bn.mono hn⟩,av,aV,fun h=>by have:=bz h;omega⟩
 ·exact .inr (.inl ⟨ac,a2,s,av,aV,bz,cm,fun e he=>(aY e he).mono hn,fun p hp=>(g p hp).mono hn⟩)
 ·exact .inr (.inr (.inl ⟨ac,a2,av.mono hn⟩))
 ·exact .inr (.inr (.inr (.inl ⟨ac,a2,⟨e,he,bn.mono hn⟩,av,ad⟩)))
 ·exact .inr (.inr (.inr (.inr (.inl ⟨ac,a2,av,ad⟩))))
 ·exact .inr (.inr (.inr (.inr (.inr h))))
section
variable {U:ho} {G:Env} {l:List dL} {V T:Lt} {n nk:Int} (hS:Sc U G l V T n nk)
include hS
theorem h5:∀(d:Nat) (x:VE),x.src V d→gd U n (bL l x)
 | d,.num k,h=>by
  have F:0≤k∧k<4611686018427387904:=by cases d<;>exact h
  exact⟨trivial,by show 0≤k∧k≤9223372036854775807;omega⟩
 | d,.g0 s,h=>by
  have F:s∈V:=by cases d<;>exact h
  obtain⟨e,he,ap⟩:=hS.vars s F;have hn:=hS.n0;unfold bL;simp only[he];rcases ap with⟨ac,av,aV⟩|⟨ac,av,aV⟩
  ·rw[if_pos ac];exact⟨⟨av,aV⟩,trivial⟩
  ·rw[if_neg ad]
   exact⟨⟨av,ad⟩,trivial⟩
 | d,.loc _,h=>by cases d<;>exact h.elim
 | d,.iC _,h=>by cases d<;>exact h.elim
 | 0,.un _ _,h=>h.elim
 | 0,.bin _ _ _,h=>h.elim
 | d+1,.un op x,h=>by
  have ao:=h5 d x h.2
  exact⟨⟨h.1,ao.1⟩,ao.2⟩
 | d+1,.bin op x y,h=>by
  have i:=h5 d x h.2.1;have c:=h5 d y h.2.2;exact⟨⟨h.1,i.1,c.1⟩,i.2,c.2⟩
theorem xR(r:eO)(h:rX G V r):cU U n nk (l6 l r):=by
 unfold l6;rcases h with⟨m,hm,hn,ac,av⟩|⟨hp,an⟩
 ·obtain⟨e,he,ap,h0,hu⟩:=hS.IF m hm;rw[←hn];simp only[he];refine .inr ⟨by simp[ap],m,h0,hu,fun hs=>?_,fun hs=>by simp[av hs]⟩;obtain⟨x,hx,ay⟩:=ac hs;exact⟨bL l x,by simp[hx],h5 hS 2 x ay⟩
 ·obtain⟨e,he,ap,h0,ak⟩:=hS.D7 _ hp;simp only[he];exact .inl ⟨by simp[ap],h0,ak,by simp[an]⟩
theorem sC:∀(ps:List (ByteArray×Bool)) (a1:List dn),iN G V ps a1→
  ((bT l a1).length:Int)=cc ps∧((cB l a1).length:Int)=bS ps∧(∀e∈bT l a1,gd U n e)∧∀p∈cB l a1,cU U n nk p
 | [],[],_=>⟨rfl,rfl,fun e h=>by simp[bT] at h,fun e h=>by simp[cB] at h⟩
 | (s,b)::ps,.mx r::a1,h=>by
  obtain⟨ac,av,aV,bz⟩:=sC ps a1 h.2;have O:b=true:=h.1.1;subst O;refine⟨?_,?_,aV,?_⟩
  ·simpa[bT,cc] using ac
  ·simp only[cB,KT,bS] at av ⊢;simp;omega
  ·intro p hp;simp only[cB,KW] at hp;rcases hp with rfl|hp
   ·exact xR hS r h.1.2
   ·exact bz p hp
 | (s,b)::ps,.ex e::a1,h=>by
  obtain⟨ac,av,aV,bz⟩:=sC ps a1 h.2;have O:b=false:=h.1.1;subst O;refine⟨?_,?_,?_,bz⟩
  ·simp only[bT,KT,cc] at ac ⊢;simp;omega
  ·simpa[cB,bS] using av
  ·intro p hp;simp only[bT,KW] at hp;rcases hp with rfl|hp
   ·exact h5 hS 2 e h.1.2
   ·exact aV p hp
 | [],_::_,h=>h.elim
 | _::_,[],h=>h.elim
end
theorem oV(a:List az)(x:az)(b:List az)(t:Int):fW (a++x::b) a.length t=a++{x with target:=t}::b:=by
 unfold fW
 induction a with
 | nil=>rfl
 | cons y a ao=>simp only[KV,KT,List.modify_succ_cons,ao]
structure yT(U:ho)(nk n:Int)(c:List az)(num:Nat)(r:List az×Int):Prop where
 ex:∃s,r.1=c++s∧s.length≤2*num∧∀x∈s,h2 U r.2 nk r.1.length x
 le:n≤r.2
 ge:r.2≤n+num
theorem yT.step{U:ho}{nk n aP:Int}{c m:List az}{k num:Nat}{r:List az×Int}(hm:m.length≤2*k)(bZ:∀x∈m,h2 U aP nk (c++m).length x)(hn:n≤aP)(cF:aP≤n+k)(h:yT U nk aP (c++m) num r):yT U nk n c (num+k) r:=by
 obtain⟨⟨s,hs,hl,ap⟩,hle,aj⟩:=h;refine⟨⟨m++s,by rw[hs,KU],by simp;omega,fun x hx=>?_⟩,ad,ad⟩;rcases KP.1 hx with hx|hx
 ·exact(bZ x hx).mono hle (by rw[hs];simp)
 ·exact ap x hx
theorem dR{U:ho}{G:Env}{nk:Int}:∀(b:an) (d:Nat) (l:List dL) (V T:Lt) (n:Int) (c:List az),e4 G d V T b→Sc U G l V T n nk→yT U nk n c b.num (dI b l n c)
 | .nil,d,l,V,T,n,c,_,_=>⟨⟨[],by simp[dI],by simp,fun x h=>by simp at h⟩,Int.le_refl _,by simp[dI,an.num]⟩
 | .set true s e rest,d,l,V,T,n,c,h,hS=>by
  have F:bF s.data.toList=true∧s∉T∧e.src V 2∧e4 G d (V++[s]) (T++[s]) rest:=by cases d<;>exact h
  have ao:=dR rest d _ _ _ (n+1) (c++[ll n false (bL l e)]) F.2.2.2 (hS.add F.2.1);refine yT.step (m:=[ll n false (bL l e)]) (k:=1) (by simp) (fun x hx=>?_) ad ad ao;have:x=ll n false (bL l e):=by simpa using hx
  subst this
  exact .inl ⟨rfl,⟨_,rfl,(h5 hS 2 e F.2.2.1).mono ad⟩,hS.n0,(fun h=>by cases h),fun _=>by show n<n+1;omega⟩
 | .set false s e rest,d,l,V,T,n,c,h,hS=>by
  have F:s∈V∧e.src V 2∧e4 G d V T rest:=by cases d<;>exact h
  have ao:=dR rest d _ _ _ n (c++[ll (jh l s) (tH l s == 1) (bL l e)]) F.2.2 hS;refine yT.step (m:=[ll (jh l s) (tH l s == 1) (bL l e)]) (k:=1) (by simp) (fun x hx=>?_) (Int.le_refl _) ad ao;have:x=ll (jh l s) (tH l s == 1) (bL l e):=by simpa using hx
  subst this;obtain⟨v,bM,ap⟩:=hS.vars s F.1;have e1:jh l s=v.n:=by simp[jh,bM]
  have e2:tH l s=v.kind:=by simp[tH,bM]
  rw[e1,e2];refine .inl ⟨rfl,⟨_,rfl,h5 hS 2 e F.2.1⟩,?_,fun a2=>?_,fun a2=>?_⟩
  ·show 0≤v.n;omega
  ·have i:v.kind=1:=by simpa[ll] using a2
   show v.n<_
   omega
  ·have i:¬v.kind=1:=by simpa[ll] using a2
   show v.n<n
   omega
 | .call g s a1 rest,d,l,V,T,n,c,h,hS=>by
  have F:(∃ps,(s,ps)∈G.funcs∧iN G V ps a1)∧e4 G d V T rest:=by cases d<;>exact h
  obtain⟨⟨ps,J,has⟩,a5⟩:=F;have ao:=dR rest d _ _ _ n (c++[lu g (jh l s) (bT l a1) (cB l a1)]) a5 hS;refine yT.step (m:=[lu g (jh l s) (bT l a1) (cB l a1)]) (k:=1) (by simp) (fun x hx=>?_) (Int.le_refl _) ad ao;have:x=lu g (jh l s) (bT l a1) (cB l a1):=by simpa using hx
  subst this;obtain⟨v,bM,_,h0,hu⟩:=hS.fns s ps J;have e1:jh l s=v.n:=by simp[jh,bM]
  obtain⟨q,y,a3,a4⟩:=sC hS ps a1 has;rw[e1]
  exact .inr (.inl ⟨by cases g<;>simp[lu],rfl,_,h0,hu,q,y,a3,a4⟩)
 | .lock u r rest,d,l,V,T,n,c,h,hS=>by
  have F:rX G V r∧e4 G d V T rest:=by cases d<;>exact h
  have ao:=dR rest d _ _ _ n (c++[pS u (l6 l r)]) F.2 hS;refine yT.step (m:=[pS u (l6 l r)]) (k:=1) (by simp) (fun x hx=>?_) (Int.le_refl _) ad ao;have:x=pS u (l6 l r):=by simpa using hx
  subst this
  exact .inr (.inr (.inl ⟨by cases u<;>simp[pS],rfl,xR hS r F.1⟩))
 | .ret rest,d,l,V,T,n,c,h,hS=>by
  have F:e4 G d V T rest:=by cases d<;>exact h
  have ao:=dR rest d _ _ _ n (c++[nj]) F hS;refine yT.step (m:=[nj]) (k:=1) (by simp) (fun x hx=>?_) (Int.le_refl _) ad ao;have:x=nj:=by simpa using hx
  subst this
  exact .inr (.inr (.inr (.inr (.inr ⟨rfl,rfl⟩))))
 | .ite e th el rest,0,l,V,T,n,c,h,hS=>h.elim
 | .gv e th rest,0,l,V,T,n,c,h,hS=>h.elim
 | .ite e th el rest,d+1,l,V,T,n,c,h,hS=>by
  have i1:=dR th d l V T n (c++[kk (bL l e) 0]) h.2.1 hS;have aw:=h5 hS 2 e h.1;unfold dI;simp only[];generalize dI th l n (c++[kk (bL l e) 0])=p at *;obtain⟨⟨s1,cn,hj,cf⟩,be,de⟩:=i1;obtain⟨bf,n1⟩:=p;simp only[] at *;have o:bf=c++kk (bL l e) 0::s1:=by rw[cn];simp
  cases hn:el.isNil with
  | true=>
   simp only[if_true];have L:fW bf c.length bf.length=c++kk (bL l e) bf.length::s1:=by
    generalize (bf.length:Int)=t;rw[o];exact oV c _ s1 t
   rw[L];have i3:=dR rest (d+1) l V T n1 (c++kk (bL l e) bf.length::s1) h.2.2.2 (hS.mono be);have hlen:bf.length=c.length+s1.length+1:=by rw[o];simp;omega
   have:=yT.step (k:=th.num+el.num+1) (n:=n) (m:=kk (bL l e) bf.length::s1) (by simp;omega) (fun x hx=>?_) be ad i3
   ·rw[show (an.ite e th el rest).num=rest.num+(th.num+el.num+1) by simp only[an.num];omega];exact this
   ·rcases KW.1 hx with rfl|hx
    ·exact .inr (.inr (.inr (.inl ⟨rfl,rfl,⟨_,rfl,aw.mono be⟩,by show (0:Int)≤(bf.length:Int);omega,by show (bf.length:Int)≤_;rw[hlen];simp;omega⟩)))
    ·exact(cf x hx).mono (Int.le_refl _) (by rw[hlen];simp;omega)
  | false=>
   simp only[Lm,if_false];have L:fW (bf++[ej 0]) c.length (bf.length+1:Nat)=c++kk (bL l e) (bf.length+1:Nat)::(s1++[ej 0]):=by
    generalize ((bf.length+1:Nat):Int)=t;rw[o,KU,KV];exact oV c _ _ t
   have hlen:bf.length=c.length+s1.length+1:=by rw[o];simp;omega
   rw[L];have i2:=dR el d l V T n1 (c++kk (bL l e) (bf.length+1:Nat)::(s1++[ej 0])) h.2.2.1 (hS.mono be);generalize dI el l n1 (c++kk (bL l e) (bf.length+1:Nat)::(s1++[ej 0]))=k at *;obtain⟨⟨s2,bO,cg,bX⟩,fA,fz⟩:=i2;obtain⟨cv,n2⟩:=k;simp only[] at *;have f:cv=(c++kk (bL l e) (bf.length+1:Nat)::s1)++ej 0::s2:=by rw[bO];simp
   have j:fW cv bf.length cv.length=(c++kk (bL l e) (bf.length+1:Nat)::s1)++ej cv.length::s2:=by
    have bk:bf.length=(c++kk (bL l e) (bf.length+1:Nat)::s1).length:=by rw[hlen];simp;omega
    generalize (cv.length:Int)=t;rw[f,congrArg (fW _) bk];exact oV _ _ s2 t
   have a:cv.length=c.length+s1.length+s2.length+2:=by rw[f];simp;omega
   rw[j,KU,KV];have i3:=dR rest (d+1) l V T n2 (c++kk (bL l e) (bf.length+1:Nat)::(s1++ej cv.length::s2)) h.2.2.2 (hS.mono ad);have:=yT.step (k:=th.num+el.num+1) (n:=n) (m:=kk (bL l e) (bf.length+1:Nat)::(s1++ej cv.length::s2)) (by simp;omega) (fun x hx=>?_) ad ad i3
   ·rw[show (an.ite e th el rest).num=rest.num+(th.num+el.num+1) by simp only[an.num];omega];exact this
   ·rcases KW.1 hx with rfl|hx
    ·exact .inr (.inr (.inr (.inl ⟨rfl,rfl,⟨_,rfl,aw.mono ad⟩,by show (0:Int)≤((bf.length+1:Nat):Int);omega,by show ((bf.length+1:Nat):Int)≤_;rw[hlen];simp;omega⟩)))
    ·rcases KP.1 hx with hx|hx
     ·exact(cf x hx).mono ad (by rw[hlen];simp;omega)
     ·rcases KW.1 hx with rfl|hx
      ·exact .inr (.inr (.inr (.inr (.inl ⟨rfl,rfl,by show (0:Int)≤(cv.length:Int);omega,by show (cv.length:Int)≤_;rw[a];simp;omega⟩))))
      ·exact(bX x hx).mono (Int.le_refl _) (by rw[a];simp;omega)
 | .gv e th rest,d+1,l,V,T,n,c,h,hS=>by
  have i1:=dR th d l V T n (c++[kk (bL l e) 0]) h.2.1 hS;have aw:=h5 hS 2 e h.1;unfold dI;simp only[];generalize dI th l n (c++[kk (bL l e) 0])=p at *;obtain⟨⟨s1,cn,hj,cf⟩,be,de⟩:=i1;obtain⟨bf,n1⟩:=p;simp only[] at *;have o:bf=c++kk (bL l e) 0::s1:=by rw[cn];simp
  have hlen:bf.length=c.length+s1.length+1:=by rw[o];simp;omega
  have L:fW (bf++[ej c.length]) c.length (bf.length+1:Nat)=c++kk (bL l e) (bf.length+1:Nat)::(s1++[ej c.length]):=by
   generalize ((bf.length+1:Nat):Int)=t;rw[o,KU,KV];exact oV c _ _ t
  rw[L];have i3:=dR rest (d+1) l V T n1 (c++kk (bL l e) (bf.length+1:Nat)::(s1++[ej c.length])) h.2.2 (hS.mono be);have:=yT.step (k:=th.num+1) (n:=n) (m:=kk (bL l e) (bf.length+1:Nat)::(s1++[ej c.length])) (by simp;omega) (fun x hx=>?_) be ad i3
  ·rw[show (an.gv e th rest).num=rest.num+(th.num+1) by simp only[an.num];omega];exact this
  ·rcases KW.1 hx with rfl|hx
   ·exact .inr (.inr (.inr (.inl ⟨rfl,rfl,⟨_,rfl,aw.mono be⟩,by show (0:Int)≤((bf.length+1:Nat):Int);omega,by show ((bf.length+1:Nat):Int)≤_;rw[hlen];simp;omega⟩)))
   ·rcases KP.1 hx with hx|hx
    ·exact(cf x hx).mono (Int.le_refl _) (by rw[hlen];simp;omega)
    ·have:x=ej c.length:=by simpa using hx
     subst this;exact .inr (.inr (.inr (.inr (.inl ⟨rfl,rfl,by show (0:Int)≤(c.length:Int);omega,by show (c.length:Int)≤_;simp;omega⟩))))
theorem kZ{l:List dL}(hn:(l.map (·.name)).Nodup)(he:e∈l):dB l e.name=some e:=by
 induction l with
 | nil=>simp at he
 | cons x l ao=>
  simp only[KM,List.nodup_cons] at hn;unfold dB at *;rcases KW.1 he with rfl|he
  ·simp
  ·rw[List.find?_cons_of_neg,ao hn.2 he];simp only[Ll];intro hx;exact hn.1 (by rw[hx];exact Lf.2 ⟨e,he,rfl⟩)
theorem nQ{α:Type}(f:α→ByteArray)(k:Int):∀(l:List α) (i:Nat),(iB f k l i).map (·.name)=l.map f
 | [],_=>rfl
 | x::l,i=>by simp only[iB,KM,nQ f k l (i+1)]
theorem h9{α:Type}(f:α→ByteArray)(k:Int):∀(l:List α) (i j:Nat) (x:α),l[j]?=some x→⟨f x,k,((i+j:Nat):Int)⟩∈iB f k l i
 | [],i,j,x,h=>by simp at h
 | y::l,i,0,x,h=>by
  simp only[List.getElem?_cons_zero,Lj] at h;subst h
  simp[iB]
 | y::l,i,j+1,x,h=>by
  simp only[List.getElem?_cons_succ] at h;have:=h9 f k l (i+1) j x h;rw[show i+1+j=i+(j+1) by omega] at this;rw[iB];exact List.mem_cons_of_mem _ this
theorem fL:∀(ps:List (ByteArray×Bool)) (i k:Int),(dQ ps i k).map (·.name)=ps.map (·.1)
 | [],_,_=>rfl
 | (s,true)::l,i,k=>by simp only[dQ,KM,fL l]
 | (s,false)::l,i,k=>by simp only[dQ,KM,fL l]
theorem gK(s:ByteArray)(b:Bool)(ps:List (ByteArray×Bool)):cc ((s,b)::ps)=cc ps+(if b then 0 else 1)∧bS ((s,b)::ps)=bS ps+(if b then 1 else 0):=by
 cases b<;>simp[cc,bS]
theorem iH(ps:List (ByteArray×Bool)):0≤cc ps∧0≤bS ps:=⟨Int.natCast_nonneg _,Int.natCast_nonneg _⟩
theorem nu:∀(ps:List (ByteArray×Bool)) (i k:Int) (s:ByteArray),(s,true)∈ps→∃e∈dQ ps i k,e.name=s∧e.kind=5∧k≤e.n∧e.n<k+bS ps
 | [],_,_,s,h=>by simp at h
 | (x,b)::l,i,k,s,h0=>by
  have hc:=(gK x b l).2;have bm:=(iH l).2;rcases KW.1 h0 with h|h
  ·injection h with ac av;subst ac av;rw[hc];exact⟨⟨s,5,k⟩,by simp[dQ],rfl,rfl,Int.le_refl _,by simp;omega⟩
  ·cases b with
   | true=>
    obtain⟨e,he,ac,av,aV,bz⟩:=nu l i (k+1) s h;rw[hc]
    exact⟨e,by simp[dQ,he],ac,av,ad,by simp;omega⟩
   | false=>
    obtain⟨e,he,ac,av,aV,bz⟩:=nu l (i+1) k s h;rw[hc];exact⟨e,by simp[dQ,he],ac,av,ad,by simp;omega⟩
theorem qj:∀(ps:List (ByteArray×Bool)) (i k:Int) (s:ByteArray),(s,false)∈ps→∃e∈dQ ps i k,e.name=s∧e.kind=4∧i≤e.n∧e.n<i+cc ps
 | [],_,_,s,h=>by simp at h
 | (x,b)::l,i,k,s,h0=>by
  have hc:=(gK x b l).1;have bm:=(iH l).1;rcases KW.1 h0 with h|h
  ·injection h with ac av;subst ac av;rw[hc];exact⟨⟨s,4,i⟩,by simp[dQ],rfl,rfl,Int.le_refl _,by simp;omega⟩
  ·cases b with
   | true=>
    obtain⟨e,he,ac,av,aV,bz⟩:=qj l i (k+1) s h;rw[hc]
    exact⟨e,by simp[dQ,he],ac,av,ad,by simp;omega⟩
   | false=>
    obtain⟨e,he,ac,av,aV,bz⟩:=qj l (i+1) k s h;rw[hc];exact⟨e,by simp[dQ,he],ac,av,ad,by simp;omega⟩
theorem fO(p:bM):(bo p).map (·.name)=bh p:=by
 simp only[bo,bh,fo,KN,nQ]
def bx(u:ay):ho:=⟨u.globals.length,u.af,u.procs.map fun p=>(p.ints,p.av)⟩
structure ql(U:ho)(p:cJ):Prop where
 ints:0≤p.ints∧p.ints≤p.locals∧p.locals≤200
 av:0≤p.av∧p.av≤100
 code:∃s,p.code=s++[nj]∧s.length≤200∧∀x∈s,h2 U p.locals p.av s.length x
structure cZ(u:ay):Prop where
 procs:∀p∈u.procs,ql (bx u) p
 D1:u.procs.length≤16
 main:∃p,0≤u.main∧u.procs[u.main.toNat]?=some p∧p.ints=0∧p.av=0
 wi:u.af.length≤12
 gp:∀m∈u.af,0≤m.size∧m.size≤64
 n7:u.globals.length≤16
 globals:∀g∈u.globals,-9223372036854775807≤g∧g≤9223372036854775807
theorem ob(p:bM):bx (gi p)=⟨p.globals.length,p.af,p.funcs.map fun f=>(cc f.params,bS f.params)⟩:=by
 simp only[bx,gi,KK,List.map_map];rfl
theorem uB(hp:ox p)(J:f∈p.funcs):
  Sc (bx (gi p)) (hW p f) (bo p++dQ f.params 0 0) (fo p++ct f.params) (bh p++f.params.map (·.1)) (cc f.params) (bS f.params):=by
 have hF:=hp.funcs f J;have bD:((bo p++dQ f.params 0 0).map (·.name)).Nodup:=by
  rw[KN,fO,fL];exact hF.fresh
 have a6:=fun e (he:e∈bo p++dQ f.params 0 0)=>kZ bD he;rw[ob];constructor
 ·intro s hs;rcases KP.1 hs with hs|hs
  ·obtain⟨g,a2,rfl⟩:=Lf.1 hs;obtain⟨i,an⟩:=List.getElem?_of_mem a2;have:=a6 _ (KP.2 (.inl (by unfold bo;exact KP.2 (.inl (KP.2 (.inl (h9 (·.1) 1 p.globals 0 i g an)))))));refine⟨_,this,.inl ⟨rfl,by show (0:Int)≤((0+i:Nat):Int);omega,?_⟩⟩;have:=(List.getElem?_eq_some_iff.1 an).1;show ((0+i:Nat):Int)<(p.globals.length:Int)
   omega
  ·obtain⟨⟨q,b⟩,bK,rfl⟩:=Lf.1 hs;obtain⟨ep,bs⟩:=List.mem_filter.1 bK;have O:b=false:=by simpa using bs
   subst O;obtain⟨e,he,ac,av,aV,bz⟩:=qj f.params 0 0 q ep;have:=a6 e (KP.2 (.inr he));rw[ac] at this;exact⟨e,this,.inr ⟨av,aV,ad⟩⟩
 ·intro m hm;obtain⟨i,an⟩:=List.getElem?_of_mem hm;have:=a6 _ (KP.2 (.inl (by unfold bo;exact KP.2 (.inl (KP.2 (.inr (h9 (·.name) 2 p.af 0 i m an)))))));refine⟨_,this,rfl,by show (0:Int)≤((0+i:Nat):Int);omega,?_⟩;show p.af[(((0+i:Nat):Int)).toNat]?=some m
  rw[Lc,KY];exact an
 ·intro s hs;obtain⟨e,he,ac,av,aV,bz⟩:=nu f.params 0 0 s hs;have:=a6 e (KP.2 (.inr he));rw[ac] at this;exact⟨e,this,av,aV,ad⟩
 ·intro s ps hs;obtain⟨g,a2,bJ⟩:=Lf.1 hs;injection bJ with a7 bB;subst a7 bB;obtain⟨i,an⟩:=List.getElem?_of_mem a2;have:=a6 _ (KP.2 (.inl (by unfold bo;exact KP.2 (.inr (h9 (·.name) 3 p.funcs 0 i g an)))));refine⟨_,this,rfl,by show (0:Int)≤((0+i:Nat):Int);omega,?_⟩;show (p.funcs.map fun f=>(cc f.params,bS f.params))[(((0+i:Nat):Int)).toNat]?=_
  rw[Lc,KY,List.getElem?_map,an];rfl
 ·intro e he;have:e.name∈(bo p++dQ f.params 0 0).map (·.name):=Lf.2 ⟨e,he,rfl⟩;rw[KN,fO,fL] at this;exact this
 ·exact(iH _).1
theorem jj{α:Type}(g:α→Nat){l:List α}{x:α}(h:x∈l):g x≤(l.map g).sum:=by
 induction l with
 | nil=>simp at h
 | cons y l ao=>
  simp only[KM,List.sum_cons];rcases KW.1 h with rfl|h
  ·omega
  ·have:=ao h;omega
theorem mG(ps:List (ByteArray×Bool)):cc ps≤ps.length∧bS ps≤ps.length:=by
 unfold cc bS;have ac:=List.length_filter_le (fun q:ByteArray×Bool=>!q.2) ps;have av:=List.length_filter_le (fun q:ByteArray×Bool=>q.2) ps;omega
theorem Fm(hp:ox p)(J:f∈p.funcs):ql (bx (gi p)) (et p f):=by
 have hF:=hp.funcs f J;obtain⟨⟨s,hs,hl,ap⟩,hle,aj⟩:=dR f.body 4 _ _ _ (cc f.params) [] hF.body (uB hp J);have K:f.body.num≤64:=KX (jj (fun f:aK=>f.body.num) J) hp.jy;have L:=hF.jy;have hn:=mG f.params;have bm:=iH f.params;refine⟨⟨bm.1,hle,?_⟩,⟨bm.2,?_⟩,?_⟩
 ·show (dI f.body (bo p++dQ f.params 0 0) (cc f.params) []).2≤200
  omega
 ·show bS f.params≤100
  omega
 ·refine⟨(dI f.body (bo p++dQ f.params 0 0) (cc f.params) []).1,rfl,?_,?_⟩
  ·rw[hs];simp;omega
  ·intro x hx;have g:x∈s:=by rw[hs] at hx;simpa using hx
   exact ap x g
theorem xG(hp:ox p):cZ (gi p):=by
 refine⟨fun q bK=>?_,?_,?_,hp.wi,fun m hm=>⟨(hp.gp m hm).1,(hp.gp m hm).2.1⟩,?_,fun g a2=>?_⟩
 ·obtain⟨f,J,rfl⟩:=Lf.1 bK;exact Fm hp J
 ·show (p.funcs.map (et p)).length≤16
  rw[KK];exact hp.D0
 ·obtain⟨i,f,an,hn,cA⟩:=hp.main;have bD:((bo p).map (·.name)).Nodup:=by rw[fO];exact hp.nodup
  have he:=kZ bD (show _∈bo p by unfold bo;exact KP.2 (.inr (h9 (·.name) 3 p.funcs 0 i f an)));have hm:(gi p).main=(i:Int):=by
   show jh (bo p) iG=(i:Int)
   simp only[hn,KY] at he;unfold jh;rw[show iG=⟨#[109,97,105,110]⟩ from rfl,he]
  refine⟨et p f,by rw[hm];omega,?_,?_,?_⟩
  ·rw[hm,Lc];show (p.funcs.map (et p))[i]?=_
   rw[List.getElem?_map,an];rfl
  ·show cc f.params=0
   rw[cA];rfl
  ·show bS f.params=0
   rw[cA];rfl
 ·show (p.globals.map (·.2)).length≤16
  rw[KK];exact hp.n7
 ·obtain⟨k,ap,rfl⟩:=Lf.1 a2;exact hp.inits k ap
end Go.Proofs.YtnhhdaggkiomoaaGreat

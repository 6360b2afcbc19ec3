/- Part 5 of the proof. No condition of its own. -/
import Derived.Test.YtajlmkkidmjgoaaGreatDoorQ04
namespace Go.Proofs.YtajlmkkidmjgoaaGreatDoor
open Go.RowKit Go.Proofs.Tryz
set_option maxRecDepth 1000000
set_option maxHeartbeats 25600000
set_option linter.unusedVariables false
variable{s:ByteArray}{f:aE}{p:bC}
structure du where
 name:ByteArray
 kind:Int
 n:Int
def de(l:List du)(s:ByteArray):Option du:=l.find? λe=>decide (e.name=s)
def bx(l:List du):VE->VE
 | .num n=>.num n
 | .gI s=>match de l s with
  | some e=>if e.kind=1 then .iq e.n else .loc e.n
  | none=>.loc 0
 | .loc k=>.loc k
 | .iq k=>.iq k
 | .un op x=>.un op (bx l x)
 | .bin op x y=>.bin op (bx l x) (bx l y)
def lK(l:List du)(r:eC):bK:=
 match de l r.name with
 | some v=>⟨v.kind == 5,v.n,r.idx.map (bx l)⟩
 | none=>⟨false,0,r.idx.map (bx l)⟩
def iC(l:List du)(s:ByteArray):Int:=match de l s with
 | some v=>v.n
 | none=>0
def sk(l:List du)(s:ByteArray):Int:=match de l s with
 | some v=>v.kind
 | none=>0
def bG(l:List du):List cW->List VE
 | []=>[]
 | .ex e::aJ=>bx l e::bG l aJ
 | .mx _::aJ=>bG l aJ
def cj(l:List du):List cW->List bK
 | []=>[]
 | .ex _::aJ=>cj l aJ
 | .mx r::aJ=>lK l r::cj l aJ
def jM:bK:=⟨false,0,none⟩
def kY(t:Int)(g:Bool)(e:VE):az:=⟨1,t,g,some e,jM,[],[]⟩
def k2(g:Bool)(t:Int)(is:List VE)(ps:List bK):az:=⟨if g then 3 else 2,t,false,none,jM,is,ps⟩
def oX(u:Bool)(p:bK):az:=⟨if u then 5 else 4,0,false,none,p,[],[]⟩
def jX(e:VE)(t:Int):az:=⟨6,t,false,some e,jM,[],[]⟩
def dR(t:Int):az:=⟨7,t,false,none,jM,[],[]⟩
def mR:az:=⟨8,0,false,none,jM,[],[]⟩
def fM(c:List az)(b:Nat)(t:Int):List az:=c.modify b λx=>{x with target:=t}
def dq:ak->List du->Int->List az->List az×Int
 | .nil,_,n,c=>(c,n)
 | .set true s e rest,l,n,c=>dq rest (l++[⟨s,4,n⟩]) (n+1) (c++[kY n false (bx l e)])
 | .set false s e rest,l,n,c=>dq rest l n (c++[kY (iC l s) (sk l s == 1) (bx l e)])
 | .call g s aJ rest,l,n,c=>dq rest l n (c++[k2 g (iC l s) (bG l aJ) (cj l aJ)])
 | .lock u r rest,l,n,c=>dq rest l n (c++[oX u (lK l r)])
 | .ite e th el rest,l,n,c=>
  let p:=dq th l n (c++[jX (bx l e) 0])
  let q:=if el.isNil then (fM p.1 c.length p.1.length,p.2) else
   let k:=dq el l p.2 (fM (p.1++[dR 0]) c.length (p.1.length+1:Nat))
   (fM k.1 p.1.length k.1.length,k.2)
  dq rest l q.2 q.1
 | .fY e th rest,l,n,c=>
  let p:=dq th l n (c++[jX (bx l e) 0])
  dq rest l p.2 (fM (p.1++[dR c.length]) c.length (p.1.length+1:Nat))
 | .ret rest,l,n,c=>dq rest l n (c++[mR])
def hT{α:Type}(f:α->ByteArray)(k:Int):List α->Nat->List du
 | [],_=>[]
 | x::l,i=>⟨f x,k,i⟩::hT f k l (i+1)
def a6(p:bC):List du:=hT (·.1) 1 p.globals 0++hT (·.name) 2 p.af 0++hT (·.name) 3 p.funcs 0
def dB:List (ByteArray×Bool)->Int->Int->List du
 | [],_,_=>[]
 | (s,true)::l,i,k=>⟨s,5,k⟩::dB l i (k+1)
 | (s,false)::l,i,k=>⟨s,4,i⟩::dB l (i+1) k
def bX(ps:List (ByteArray×Bool)):Int:=((ps.filter λq=>!q.2).length:Nat)
def bD(ps:List (ByteArray×Bool)):Int:=((ps.filter λq=>q.2).length:Nat)
def dX(p:bC)(f:aE):c7:=
 let q:=dq f.body (a6 p++dB f.params 0 0) (bX f.params) []
 ⟨f.name,bX f.params,bD f.params,q.2,q.1++[mR]⟩
def h2:ByteArray:=⟨#[109,97,105,110]⟩
def hZ(p:bC):ax:=⟨p.globals.map (·.2),p.af,p.funcs.map (dX p),iC (a6 p) h2⟩
def VE.lit:VE->Prop
 | .num n=>0<=n/\n<=9223372036854775807
 | .un _ x=>x.lit
 | .bin _ x y=>x.lit/\y.lit
 | _=>True
structure gV where
 ng:Nat
 af:List bJ
 sig:List (Int×Int)
def fR(U:gV)(nl:Int)(e:VE):Prop:=e.ok U.ng nl.toNat/\e.lit
def cP(U:gV)(nl nk:Int)(p:bK):Prop:=
 (p.param=true/\0<=p.index/\p.index<nk/\p.at_=none)\/
 (p.param=false/\∃m,0<=p.index/\U.af[p.index.toNat]?=some m/\(0<m.size->∃e,p.at_=some e/\fR U nl e)/\(¬0<m.size->p.at_=none))
def hf(U:gV)(nl nk:Int)(len:Nat)(x:az):Prop:=
 (x.op=1/\(∃e,x.expr=some e/\fR U nl e)/\0<=x.target/\(x.dw=true->x.target<U.ng)/\(x.dw=false->x.target<nl))\/
 ((x.op=2\/x.op=3)/\x.dw=false/\∃s,0<=x.target/\U.sig[x.target.toNat]?=some s/\(x.ints.length:Int)=s.1/\(x.places.length:Int)=s.2/\(∀e∈x.ints,fR U nl e)/\∀p∈x.places,cP U nl nk p)\/
 ((x.op=4\/x.op=5)/\x.dw=false/\cP U nl nk x.place)\/
 (x.op=6/\x.dw=false/\(∃e,x.expr=some e/\fR U nl e)/\0<=x.target/\x.target<=len)\/
 (x.op=7/\x.dw=false/\0<=x.target/\x.target<=len)\/
 (x.op=8/\x.dw=false)
structure Sc(U:gV)(G:Env)(l:List du)(V T:IQ)(n nk:Int):Prop where
 vars:∀s∈V,∃e,de l s=some e/\((e.kind=1/\0<=e.n/\e.n<U.ng)\/(e.kind=4/\0<=e.n/\e.n<n))
 F6:∀m∈G.af,∃e,de l m.name=some e/\e.kind=2/\0<=e.n/\U.af[e.n.toNat]?=some m
 BG:∀s,(s,true)∈G.params->∃e,de l s=some e/\e.kind=5/\0<=e.n/\e.n<nk
 fns:∀s ps,(s,ps)∈G.funcs->∃e,de l s=some e/\e.kind=3/\0<=e.n/\U.sig[e.n.toNat]?=some (bX ps,bD ps)
 taken:∀e∈l,e.name∈T
 n0:0<=n
variable{e:du}
theorem iV{l:List du}{x:du}(h:de l s=some e):de (l++[x]) s=some e:=by
 unfold de at *;rw[List.find?_append,h];rfl
theorem w5{l:List du}{T:IQ}(ht:∀e∈l,e.name∈T)(hs:s∉T)(k n:Int):de (l++[⟨s,k,n⟩]) s=some ⟨s,k,n⟩:=by
 unfold de;rw[List.find?_append,List.find?_eq_none.2 (λe he=>by
  simp only[IG];rintro rfl;exact hs (ht e he))]
 simp
section
variable {U:gV} {G:Env} {l:List du} {V T:IQ} {n a0 nk:Int}
theorem Sc.mono(h:Sc U G l V T n nk)(hn:n<=a0):Sc U G l V T a0 nk:=
 ⟨λs hs=>by obtain⟨e,he,ap⟩:=h.vars s hs;exact⟨e,he,ap.imp id λ⟨a,b,c⟩=>⟨a,b,ad⟩⟩,h.F6,h.BG,h.fns,h.taken,by have:=h.n0;omega⟩
theorem Sc.add(h:Sc U G l V T n nk)(hs:s∉T):Sc U G (l++[⟨s,4,n⟩]) (V++[s]) (T++[s]) (n+1) nk where
 vars:=λx hx=>by
  rcases Ii.1 hx with hx|hx
  .obtain⟨e,he,ap⟩:=h.vars x hx;exact⟨e,iV he,ap.imp id λ⟨a,b,c⟩=>⟨a,b,ad⟩⟩
  .have:x=s:=by simpa using hx
   subst this;exact⟨_,w5 h.taken hs 4 n,.inr ⟨rfl,h.n0,by show n<n+1;omega⟩⟩
 F6:=λm hm=>by obtain⟨e,he,r⟩:=h.F6 m hm;exact⟨e,iV he,r⟩
 BG:=λx hx=>by obtain⟨e,he,r⟩:=h.BG x hx;exact⟨e,iV he,r⟩
 fns:=λx ps hx=>by obtain⟨e,he,r⟩:=h.fns x ps hx;exact⟨e,iV he,r⟩
 taken:=λe he=>by
  rcases Ii.1 he with he|he
  .exact Ii.2 (.inl (h.taken e he))
  .have:e=⟨s,4,n⟩:=by simpa using he
   subst this;simp
 n0:=by have:=h.n0;omega
end
theorem n7{ng nl a:Nat}(h:nl<=a):∀x:VE,x.ok ng nl->x.ok ng a
 | .num _,_=>trivial
 | .gI _,F=>F.elim
 | .loc k,F=>⟨F.1,by have:=F.2;omega⟩
 | .iq k,F=>F
 | .un _ x,F=>⟨F.1,n7 h x F.2⟩
 | .bin _ x y,F=>⟨F.1,n7 h x F.2.1,n7 h y F.2.2⟩
theorem fR.mono{U:gV}{n a0:Int}{e:VE}(h:fR U n e)(hn:n<=a0):fR U a0 e:=⟨n7 (nl:=n.toNat) (a:=a0.toNat) ad e h.1,h.2⟩
theorem cP.mono{U:gV}{n a0 nk:Int}{p:bK}(h:cP U n nk p)(hn:n<=a0):cP U a0 nk p:=
 h.imp id λ⟨a,m,b,c,d,e⟩=>⟨a,m,b,c,λhs=>by obtain⟨x,hx,ap⟩:=d hs;exact⟨x,hx,ap.mono hn⟩,e⟩
theorem hf.mono{U:gV}{n a0 nk:Int}{k u:Nat}{x:az}(h:hf U n nk k x)(hn:n<=a0)(ap:k<=u):hf U a0 nk u x:=by
 rcases h with⟨ac,⟨e,he,bu⟩,J,aR,bv⟩|⟨ac,aM,s,J,aR,bv,ct,Q,C⟩|⟨ac,aM,J⟩|⟨ac,aM,⟨e,he,bu⟩,J,aR⟩|⟨ac,aM,J,aR⟩|h
 .exact .inl ⟨ac,⟨e,he,bu.mono hn⟩,J,aR,λh=>by have:=bv h;omega⟩
 .exact .inr (.inl ⟨ac,aM,s,J,aR,bv,ct,λe he=>(Q e he).mono hn,λp hp=>(C p hp).mono hn⟩)
 .exact .inr (.inr (.inl ⟨ac,aM,J.mono hn⟩))
 .exact .inr (.inr (.inr (.inl ⟨ac,aM,⟨e,he,bu.mono hn⟩,J,ad⟩)))
 .exact .inr (.inr (.inr (.inr (.inl ⟨ac,aM,J,ad⟩))))
 .exact .inr (.inr (.inr (.inr (.inr h))))
section
variable {U:gV} {G:Env} {l:List du} {V T:IQ} {n nk:Int} (hS:Sc U G l V T n nk)
include hS
theorem hi:∀(d:Nat) (x:VE),x.src V d->fR U n (bx l x)
 | d,.num k,h=>by
  have F:0<=k/\k<4611686018427387904:=by cases d<;>exact h
  exact⟨trivial,by show 0<=k/\k<=9223372036854775807;omega⟩
 | d,.gI s,h=>by
  have F:s∈V:=by cases d<;>exact h
  obtain⟨e,he,ap⟩:=hS.vars s F;have hn:=hS.n0;unfold bx;simp only[he];rcases ap with⟨ac,J,aR⟩|⟨ac,J,aR⟩
  .rw[if_pos ac];exact⟨⟨J,aR⟩,trivial⟩
  .rw[if_neg ad]
   exact⟨⟨J,ad⟩,trivial⟩
 | d,.loc _,h=>by cases d<;>exact h.elim
 | d,.iq _,h=>by cases d<;>exact h.elim
 | 0,.un _ _,h=>h.elim
 | 0,.bin _ _ _,h=>h.elim
 | d+1,.un op x,h=>by
  have aa:=hi d x h.2
  exact⟨⟨h.1,aa.1⟩,aa.2⟩
 | d+1,.bin op x y,h=>by
  have i:=hi d x h.2.1;have c:=hi d y h.2.2;exact⟨⟨h.1,i.1,c.1⟩,i.2,c.2⟩
theorem wz(r:eC)(h:rU G V r):cP U n nk (lK l r):=by
 unfold lK;rcases h with⟨m,hm,hn,ac,J⟩|⟨hp,ak⟩
 .obtain⟨e,he,ap,h0,hu⟩:=hS.F6 m hm;rw[<-hn];simp only[he];refine .inr ⟨by simp[ap],m,h0,hu,λhs=>?_,λhs=>by simp[J hs]⟩;obtain⟨x,hx,ao⟩:=ac hs;exact⟨bx l x,by simp[hx],hi hS 2 x ao⟩
 .obtain⟨e,he,ap,h0,al⟩:=hS.BG _ hp;simp only[he];exact .inl ⟨by simp[ap],h0,al,by simp[ak]⟩
theorem q3:∀(ps:List (ByteArray×Bool)) (aJ:List cW),h9 G V ps aJ->
  ((bG l aJ).length:Int)=bX ps/\((cj l aJ).length:Int)=bD ps/\(∀e∈bG l aJ,fR U n e)/\∀p∈cj l aJ,cP U n nk p
 | [],[],_=>⟨rfl,rfl,λe h=>by simp[bG] at h,λe h=>by simp[cj] at h⟩
 | (s,b)::ps,.mx r::aJ,h=>by
  obtain⟨ac,J,aR,bv⟩:=q3 ps aJ h.2;have O:b=true:=h.1.1;subst O;refine⟨?_,?_,aR,?_⟩
  .simpa[bG,bX] using ac
  .simp only[cj,Im,bD] at J ⊢;simp;omega
  .intro p hp;simp only[cj,Iq] at hp;rcases hp with rfl|hp
   .exact wz hS r h.1.2
   .exact bv p hp
 | (s,b)::ps,.ex e::aJ,h=>by
  obtain⟨ac,J,aR,bv⟩:=q3 ps aJ h.2;have O:b=false:=h.1.1;subst O;refine⟨?_,?_,?_,bv⟩
  .simp only[bG,Im,bX] at ac ⊢;simp;omega
  .simpa[cj,bD] using J
  .intro p hp;simp only[bG,Iq] at hp;rcases hp with rfl|hp
   .exact hi hS 2 e h.1.2
   .exact aR p hp
 | [],_::_,h=>h.elim
 | _::_,[],h=>h.elim
end
theorem n9(a:List az)(x:az)(b:List az)(t:Int):fM (a++x::b) a.length t=a++{x with target:=t}::b:=by
 unfold fM
 induction a with
 | nil=>rfl
 | cons y a aa=>simp only[Ip,Im,List.modify_succ_cons,aa]
structure xO(U:gV)(nk n:Int)(c:List az)(num:Nat)(r:List az×Int):Prop where
 ex:∃s,r.1=c++s/\s.length<=2*num/\∀x∈s,hf U r.2 nk r.1.length x
 le:n<=r.2
 ge:r.2<=n+num
theorem xO.step{U:gV}{nk n a0:Int}{c m:List az}{k num:Nat}{r:List az×Int}(hm:m.length<=2*k)(cc:∀x∈m,hf U a0 nk (c++m).length x)(hn:n<=a0)(cg:a0<=n+k)(h:xO U nk a0 (c++m) num r):xO U nk n c (num+k) r:=by
 obtain⟨⟨s,hs,hl,ap⟩,hle,aZ⟩:=h;refine⟨⟨m++s,by rw[hs,Io],by simp;omega,λx hx=>?_⟩,ad,ad⟩;rcases Ii.1 hx with hx|hx
 .exact(cc x hx).mono hle (by rw[hs];simp)
 .exact ap x hx
theorem dD{U:gV}{G:Env}{nk:Int}:∀(b:ak) (d:Nat) (l:List du) (V T:IQ) (n:Int) (c:List az),eJ G d V T b->Sc U G l V T n nk->xO U nk n c b.num (dq b l n c)
 | .nil,d,l,V,T,n,c,_,_=>⟨⟨[],by simp[dq],by simp,λx h=>by simp at h⟩,Int.le_refl _,by simp[dq,ak.num]⟩
 | .set true s e rest,d,l,V,T,n,c,h,hS=>by
  have F:br s.data.toList=true/\s∉T/\e.src V 2/\eJ G d (V++[s]) (T++[s]) rest:=by cases d<;>exact h
  have aa:=dD rest d _ _ _ (n+1) (c++[kY n false (bx l e)]) F.2.2.2 (hS.add F.2.1);refine xO.step (m:=[kY n false (bx l e)]) (k:=1) (by simp) (λx hx=>?_) ad ad aa;have:x=kY n false (bx l e):=by simpa using hx
  subst this
  exact .inl ⟨rfl,⟨_,rfl,(hi hS 2 e F.2.2.1).mono ad⟩,hS.n0,(λh=>by cases h),λ_=>by show n<n+1;omega⟩
 | .set false s e rest,d,l,V,T,n,c,h,hS=>by
  have F:s∈V/\e.src V 2/\eJ G d V T rest:=by cases d<;>exact h
  have aa:=dD rest d _ _ _ n (c++[kY (iC l s) (sk l s == 1) (bx l e)]) F.2.2 hS;refine xO.step (m:=[kY (iC l s) (sk l s == 1) (bx l e)]) (k:=1) (by simp) (λx hx=>?_) (Int.le_refl _) ad aa;have:x=kY (iC l s) (sk l s == 1) (bx l e):=by simpa using hx
  subst this;obtain⟨v,bC,ap⟩:=hS.vars s F.1;have e1:iC l s=v.n:=by simp[iC,bC]
  have e2:sk l s=v.kind:=by simp[sk,bC]
  rw[e1,e2];refine .inl ⟨rfl,⟨_,rfl,hi hS 2 e F.2.1⟩,?_,λaM=>?_,λaM=>?_⟩
  .show 0<=v.n;omega
  .have j:v.kind=1:=by simpa[kY] using aM
   show v.n<_
   omega
  .have j:¬v.kind=1:=by simpa[kY] using aM
   show v.n<n
   omega
 | .call g s aJ rest,d,l,V,T,n,c,h,hS=>by
  have F:(∃ps,(s,ps)∈G.funcs/\h9 G V ps aJ)/\eJ G d V T rest:=by cases d<;>exact h
  obtain⟨⟨ps,aA,has⟩,aY⟩:=F;have aa:=dD rest d _ _ _ n (c++[k2 g (iC l s) (bG l aJ) (cj l aJ)]) aY hS;refine xO.step (m:=[k2 g (iC l s) (bG l aJ) (cj l aJ)]) (k:=1) (by simp) (λx hx=>?_) (Int.le_refl _) ad aa;have:x=k2 g (iC l s) (bG l aJ) (cj l aJ):=by simpa using hx
  subst this;obtain⟨v,bC,_,h0,hu⟩:=hS.fns s ps aA;have e1:iC l s=v.n:=by simp[iC,bC]
  obtain⟨z,w,y,A⟩:=q3 hS ps aJ has;rw[e1]
  exact .inr (.inl ⟨by cases g<;>simp[k2],rfl,_,h0,hu,z,w,y,A⟩)
 | .lock u r rest,d,l,V,T,n,c,h,hS=>by
  have F:rU G V r/\eJ G d V T rest:=by cases d<;>exact h
  have aa:=dD rest d _ _ _ n (c++[oX u (lK l r)]) F.2 hS;refine xO.step (m:=[oX u (lK l r)]) (k:=1) (by simp) (λx hx=>?_) (Int.le_refl _) ad aa;have:x=oX u (lK l r):=by simpa using hx
  subst this
  exact .inr (.inr (.inl ⟨by cases u<;>simp[oX],rfl,wz hS r F.1⟩))
 | .ret rest,d,l,V,T,n,c,h,hS=>by
  have F:eJ G d V T rest:=by cases d<;>exact h
  have aa:=dD rest d _ _ _ n (c++[mR]) F hS;refine xO.step (m:=[mR]) (k:=1) (by simp) (λx hx=>?_) (Int.le_refl _) ad aa;have:x=mR:=by simpa using hx
  subst this
  exact .inr (.inr (.inr (.inr (.inr ⟨rfl,rfl⟩))))
 | .ite e th el rest,0,l,V,T,n,c,h,hS=>h.elim
 | .fY e th rest,0,l,V,T,n,c,h,hS=>h.elim
 | .ite e th el rest,d+1,l,V,T,n,c,h,hS=>by
  have i1:=dD th d l V T n (c++[jX (bx l e) 0]) h.2.1 hS;have aw:=hi hS 2 e h.1;unfold dq;simp only[];generalize dq th l n (c++[jX (bx l e) 0])=p at *;obtain⟨⟨s1,b6,hj,b7⟩,a9,df⟩:=i1;obtain⟨aR,n1⟩:=p;simp only[] at *;have f:aR=c++jX (bx l e) 0::s1:=by rw[b6];simp
  cases hn:el.isNil with
  | true=>
   simp only[if_true];have a:fM aR c.length aR.length=c++jX (bx l e) aR.length::s1:=by
    generalize (aR.length:Int)=t;rw[f];exact n9 c _ s1 t
   rw[a];have i3:=dD rest (d+1) l V T n1 (c++jX (bx l e) aR.length::s1) h.2.2.2 (hS.mono a9);have hlen:aR.length=c.length+s1.length+1:=by rw[f];simp;omega
   have:=xO.step (k:=th.num+el.num+1) (n:=n) (m:=jX (bx l e) aR.length::s1) (by simp;omega) (λx hx=>?_) a9 ad i3
   .rw[show (ak.ite e th el rest).num=rest.num+(th.num+el.num+1) by simp only[ak.num];omega];exact this
   .rcases Iq.1 hx with rfl|hx
    .exact .inr (.inr (.inr (.inl ⟨rfl,rfl,⟨_,rfl,aw.mono a9⟩,by show (0:Int)<=(aR.length:Int);omega,by show (aR.length:Int)<=_;rw[hlen];simp;omega⟩)))
    .exact(b7 x hx).mono (Int.le_refl _) (by rw[hlen];simp;omega)
  | false=>
   simp only[II,if_false];have a:fM (aR++[dR 0]) c.length (aR.length+1:Nat)=c++jX (bx l e) (aR.length+1:Nat)::(s1++[dR 0]):=by
    generalize ((aR.length+1:Nat):Int)=t;rw[f,Io,Ip];exact n9 c _ _ t
   have hlen:aR.length=c.length+s1.length+1:=by rw[f];simp;omega
   rw[a];have i2:=dD el d l V T n1 (c++jX (bx l e) (aR.length+1:Nat)::(s1++[dR 0])) h.2.2.1 (hS.mono a9);generalize dq el l n1 (c++jX (bx l e) (aR.length+1:Nat)::(s1++[dR 0]))=k at *;obtain⟨⟨s2,bz,bS,bM⟩,fw,fv⟩:=i2;obtain⟨cm,cd⟩:=k;simp only[] at *;have o:cm=(c++jX (bx l e) (aR.length+1:Nat)::s1)++dR 0::s2:=by rw[bz];simp
   have q:fM cm aR.length cm.length=(c++jX (bx l e) (aR.length+1:Nat)::s1)++dR cm.length::s2:=by
    have b3:aR.length=(c++jX (bx l e) (aR.length+1:Nat)::s1).length:=by rw[hlen];simp;omega
    generalize (cm.length:Int)=t;rw[o,congrArg (fM _) b3];exact n9 _ _ s2 t
   have i:cm.length=c.length+s1.length+s2.length+2:=by rw[o];simp;omega
   rw[q,Io,Ip];have i3:=dD rest (d+1) l V T cd (c++jX (bx l e) (aR.length+1:Nat)::(s1++dR cm.length::s2)) h.2.2.2 (hS.mono ad);have:=xO.step (k:=th.num+el.num+1) (n:=n) (m:=jX (bx l e) (aR.length+1:Nat)::(s1++dR cm.length::s2)) (by simp;omega) (λx hx=>?_) ad ad i3
   .rw[show (ak.ite e th el rest).num=rest.num+(th.num+el.num+1) by simp only[ak.num];omega];exact this
   .rcases Iq.1 hx with rfl|hx
    .exact .inr (.inr (.inr (.inl ⟨rfl,rfl,⟨_,rfl,aw.mono ad⟩,by show (0:Int)<=((aR.length+1:Nat):Int);omega,by show ((aR.length+1:Nat):Int)<=_;rw[hlen];simp;omega⟩)))
    .rcases Ii.1 hx with hx|hx
     .exact(b7 x hx).mono ad (by rw[hlen];simp;omega)
     .rcases Iq.1 hx with rfl|hx
      .exact .inr (.inr (.inr (.inr (.inl ⟨rfl,rfl,by show (0:Int)<=(cm.length:Int);omega,by show (cm.length:Int)<=_;rw[i];simp;omega⟩))))
      .exact(bM x hx).mono (Int.le_refl _) (by rw[i];simp;omega)
 | .fY e th rest,d+1,l,V,T,n,c,h,hS=>by
  have i1:=dD th d l V T n (c++[jX (bx l e) 0]) h.2.1 hS;have aw:=hi hS 2 e h.1;unfold dq;simp only[];generalize dq th l n (c++[jX (bx l e) 0])=p at *;obtain⟨⟨s1,b6,hj,b7⟩,a9,df⟩:=i1;obtain⟨aR,n1⟩:=p;simp only[] at *;have f:aR=c++jX (bx l e) 0::s1:=by rw[b6];simp
  have hlen:aR.length=c.length+s1.length+1:=by rw[f];simp;omega
  have a:fM (aR++[dR c.length]) c.length (aR.length+1:Nat)=c++jX (bx l e) (aR.length+1:Nat)::(s1++[dR c.length]):=by
   generalize ((aR.length+1:Nat):Int)=t;rw[f,Io,Ip];exact n9 c _ _ t
  rw[a];have i3:=dD rest (d+1) l V T n1 (c++jX (bx l e) (aR.length+1:Nat)::(s1++[dR c.length])) h.2.2 (hS.mono a9);have:=xO.step (k:=th.num+1) (n:=n) (m:=jX (bx l e) (aR.length+1:Nat)::(s1++[dR c.length])) (by simp;omega) (λx hx=>?_) a9 ad i3
  .rw[show (ak.fY e th rest).num=rest.num+(th.num+1) by simp only[ak.num];omega];exact this
  .rcases Iq.1 hx with rfl|hx
   .exact .inr (.inr (.inr (.inl ⟨rfl,rfl,⟨_,rfl,aw.mono a9⟩,by show (0:Int)<=((aR.length+1:Nat):Int);omega,by show ((aR.length+1:Nat):Int)<=_;rw[hlen];simp;omega⟩)))
   .rcases Ii.1 hx with hx|hx
    .exact(b7 x hx).mono (Int.le_refl _) (by rw[hlen];simp;omega)
    .have:x=dR c.length:=by simpa using hx
     subst this;exact .inr (.inr (.inr (.inr (.inl ⟨rfl,rfl,by show (0:Int)<=(c.length:Int);omega,by show (c.length:Int)<=_;simp;omega⟩))))
theorem kH{l:List du}(hn:(l.map (·.name)).Nodup)(he:e∈l):de l e.name=some e:=by
 induction l with
 | nil=>simp at he
 | cons x l aa=>
  simp only[Ie,List.nodup_cons] at hn;unfold de at *;rcases Iq.1 he with rfl|he
  .simp
  .rw[List.find?_cons_of_neg,aa hn.2 he];simp only[IG];intro hx;exact hn.1 (by rw[hx];exact Iz.2 ⟨e,he,rfl⟩)
theorem ns{α:Type}(f:α->ByteArray)(k:Int):∀(l:List α) (i:Nat),(hT f k l i).map (·.name)=l.map f
 | [],_=>rfl
 | x::l,i=>by simp only[hT,Ie,ns f k l (i+1)]
theorem ho{α:Type}(f:α->ByteArray)(k:Int):∀(l:List α) (i j:Nat) (x:α),l[j]?=some x->⟨f x,k,((i+j:Nat):Int)⟩∈hT f k l i
 | [],i,j,x,h=>by simp at h
 | y::l,i,0,x,h=>by
  simp only[List.getElem?_cons_zero,IE] at h;subst h
  simp[hT]
 | y::l,i,j+1,x,h=>by
  simp only[List.getElem?_cons_succ] at h;have:=ho f k l (i+1) j x h;rw[show i+1+j=i+(j+1) by omega] at this;rw[hT];exact List.mem_cons_of_mem _ this
theorem fw:∀(ps:List (ByteArray×Bool)) (i k:Int),(dB ps i k).map (·.name)=ps.map (·.1)
 | [],_,_=>rfl
 | (s,true)::l,i,k=>by simp only[dB,Ie,fw l]
 | (s,false)::l,i,k=>by simp only[dB,Ie,fw l]
theorem gr(s:ByteArray)(b:Bool)(ps:List (ByteArray×Bool)):bX ((s,b)::ps)=bX ps+(if b then 0 else 1)/\bD ((s,b)::ps)=bD ps+(if b then 1 else 0):=by
 cases b<;>simp[bX,bD]
theorem h3(ps:List (ByteArray×Bool)):0<=bX ps/\0<=bD ps:=⟨Int.natCast_nonneg _,Int.natCast_nonneg _⟩
theorem mX:∀(ps:List (ByteArray×Bool)) (i k:Int) (s:ByteArray),(s,true)∈ps->∃e∈dB ps i k,e.name=s/\e.kind=5/\k<=e.n/\e.n<k+bD ps
 | [],_,_,s,h=>by simp at h
 | (x,b)::l,i,k,s,h0=>by
  have hc:=(gr x b l).2;have L:=(h3 l).2;rcases Iq.1 h0 with h|h
  .injection h with ac J;subst ac J;rw[hc];exact⟨⟨s,5,k⟩,by simp[dB],rfl,rfl,Int.le_refl _,by simp;omega⟩
  .cases b with
   | true=>
    obtain⟨e,he,ac,J,aR,bv⟩:=mX l i (k+1) s h;rw[hc]
    exact⟨e,by simp[dB,he],ac,J,ad,by simp;omega⟩
   | false=>
    obtain⟨e,he,ac,J,aR,bv⟩:=mX l (i+1) k s h;rw[hc];exact⟨e,by simp[dB,he],ac,J,ad,by simp;omega⟩
theorem pr:∀(ps:List (ByteArray×Bool)) (i k:Int) (s:ByteArray),(s,false)∈ps->∃e∈dB ps i k,e.name=s/\e.kind=4/\i<=e.n/\e.n<i+bX ps
 | [],_,_,s,h=>by simp at h
 | (x,b)::l,i,k,s,h0=>by
  have hc:=(gr x b l).1;have L:=(h3 l).1;rcases Iq.1 h0 with h|h
  .injection h with ac J;subst ac J;rw[hc];exact⟨⟨s,4,i⟩,by simp[dB],rfl,rfl,Int.le_refl _,by simp;omega⟩
  .cases b with
   | true=>
    obtain⟨e,he,ac,J,aR,bv⟩:=pr l i (k+1) s h;rw[hc]
    exact⟨e,by simp[dB,he],ac,J,ad,by simp;omega⟩
   | false=>
    obtain⟨e,he,ac,J,aR,bv⟩:=pr l (i+1) k s h;rw[hc];exact⟨e,by simp[dB,he],ac,J,ad,by simp;omega⟩
theorem fC(p:bC):(a6 p).map (·.name)=a4 p:=by
 simp only[a6,a4,fo,Ig,ns]
def bk(u:ax):gV:=⟨u.globals.length,u.af,u.procs.map λp=>(p.ints,p.aw)⟩
structure pv(U:gV)(p:c7):Prop where
 ints:0<=p.ints/\p.ints<=p.locals/\p.locals<=200
 aw:0<=p.aw/\p.aw<=100
 code:∃s,p.code=s++[mR]/\s.length<=200/\∀x∈s,hf U p.locals p.aw s.length x
structure cZ(u:ax):Prop where
 procs:∀p∈u.procs,pv (bk u) p
 El:u.procs.length<=16
 main:∃p,0<=u.main/\u.procs[u.main.toNat]?=some p/\p.ints=0/\p.aw=0
 xm:u.af.length<=12
 gh:∀m∈u.af,0<=m.size/\m.size<=64
 pe:u.globals.length<=16
 globals:∀g∈u.globals,-9223372036854775807<=g/\g<=9223372036854775807
theorem nG(p:bC):bk (hZ p)=⟨p.globals.length,p.af,p.funcs.map λf=>(bX f.params,bD f.params)⟩:=by
 simp only[bk,hZ,Ib,List.map_map];rfl
theorem sY(hp:pH p)(aA:f∈p.funcs):
  Sc (bk (hZ p)) (ik p f) (a6 p++dB f.params 0 0) (fo p++ck f.params) (a4 p++f.params.map (·.1)) (bX f.params) (bD f.params):=by
 have hF:=hp.funcs f aA;have bI:((a6 p++dB f.params 0 0).map (·.name)).Nodup:=by
  rw[Ig,fC,fw];exact hF.fresh
 have aK:=λe (he:e∈a6 p++dB f.params 0 0)=>kH bI he;rw[nG];constructor
 .intro s hs;rcases Ii.1 hs with hs|hs
  .obtain⟨g,aM,rfl⟩:=Iz.1 hs;obtain⟨i,ak⟩:=List.getElem?_of_mem aM;have:=aK _ (Ii.2 (.inl (by unfold a6;exact Ii.2 (.inl (Ii.2 (.inl (ho (·.1) 1 p.globals 0 i g ak)))))));refine⟨_,this,.inl ⟨rfl,by show (0:Int)<=((0+i:Nat):Int);omega,?_⟩⟩;have:=(List.getElem?_eq_some_iff.1 ak).1;show ((0+i:Nat):Int)<(p.globals.length:Int)
   omega
  .obtain⟨⟨q,b⟩,bp,rfl⟩:=Iz.1 hs;obtain⟨fa,bR⟩:=List.mem_filter.1 bp;have O:b=false:=by simpa using bR
   subst O;obtain⟨e,he,ac,J,aR,bv⟩:=pr f.params 0 0 q fa;have:=aK e (Ii.2 (.inr he));rw[ac] at this;exact⟨e,this,.inr ⟨J,aR,ad⟩⟩
 .intro m hm;obtain⟨i,ak⟩:=List.getElem?_of_mem hm;have:=aK _ (Ii.2 (.inl (by unfold a6;exact Ii.2 (.inl (Ii.2 (.inr (ho (·.name) 2 p.af 0 i m ak)))))));refine⟨_,this,rfl,by show (0:Int)<=((0+i:Nat):Int);omega,?_⟩;show p.af[(((0+i:Nat):Int)).toNat]?=some m
  rw[Iw,It];exact ak
 .intro s hs;obtain⟨e,he,ac,J,aR,bv⟩:=mX f.params 0 0 s hs;have:=aK e (Ii.2 (.inr he));rw[ac] at this;exact⟨e,this,J,aR,ad⟩
 .intro s ps hs;obtain⟨g,aM,bY⟩:=Iz.1 hs;injection bY with bT bb;subst bT bb;obtain⟨i,ak⟩:=List.getElem?_of_mem aM;have:=aK _ (Ii.2 (.inl (by unfold a6;exact Ii.2 (.inr (ho (·.name) 3 p.funcs 0 i g ak)))));refine⟨_,this,rfl,by show (0:Int)<=((0+i:Nat):Int);omega,?_⟩;show (p.funcs.map λf=>(bX f.params,bD f.params))[(((0+i:Nat):Int)).toNat]?=_
  rw[Iw,It,List.getElem?_map,ak];rfl
 .intro e he;have:e.name∈(a6 p++dB f.params 0 0).map (·.name):=Iz.2 ⟨e,he,rfl⟩;rw[Ig,fC,fw] at this;exact this
 .exact(h3 _).1
theorem iF{α:Type}(g:α->Nat){l:List α}{x:α}(h:x∈l):g x<=(l.map g).sum:=by
 induction l with
 | nil=>simp at h
 | cons y l aa=>
  simp only[Ie,List.sum_cons];rcases Iq.1 h with rfl|h
  .omega
  .have:=aa h;omega
theorem mf(ps:List (ByteArray×Bool)):bX ps<=ps.length/\bD ps<=ps.length:=by
 unfold bX bD;have ac:=List.length_filter_le (λq:ByteArray×Bool=>!q.2) ps;have J:=List.length_filter_le (λq:ByteArray×Bool=>q.2) ps;omega
theorem CX(hp:pH p)(aA:f∈p.funcs):pv (bk (hZ p)) (dX p f):=by
 have hF:=hp.funcs f aA;obtain⟨⟨s,hs,hl,ap⟩,hle,aZ⟩:=dD f.body 4 _ _ _ (bX f.params) [] hF.body (sY hp aA);have K:f.body.num<=64:=Ir (iF (λf:aE=>f.body.num) aA) hp.hW;have F:=hF.hW;have hn:=mf f.params;have L:=h3 f.params;refine⟨⟨L.1,hle,?_⟩,⟨L.2,?_⟩,?_⟩
 .show (dq f.body (a6 p++dB f.params 0 0) (bX f.params) []).2<=200
  omega
 .show bD f.params<=100
  omega
 .refine⟨(dq f.body (a6 p++dB f.params 0 0) (bX f.params) []).1,rfl,?_,?_⟩
  .rw[hs];simp;omega
  .intro x hx;have g:x∈s:=by rw[hs] at hx;simpa using hx
   exact ap x g
theorem CY(hp:pH p):cZ (hZ p):=by
 refine⟨λq bp=>?_,?_,?_,hp.xm,λm hm=>⟨(hp.gh m hm).1,(hp.gh m hm).2.1⟩,?_,λg aM=>?_⟩
 .obtain⟨f,aA,rfl⟩:=Iz.1 bp;exact CX hp aA
 .show (p.funcs.map (dX p)).length<=16
  rw[Ib];exact hp.C5
 .obtain⟨i,f,ak,hn,cq⟩:=hp.main;have bI:((a6 p).map (·.name)).Nodup:=by rw[fC];exact hp.nodup
  have he:=kH bI (show _∈a6 p by unfold a6;exact Ii.2 (.inr (ho (·.name) 3 p.funcs 0 i f ak)));have hm:(hZ p).main=(i:Int):=by
   show iC (a6 p) h2=(i:Int)
   simp only[hn,It] at he;unfold iC;rw[show h2=⟨#[109,97,105,110]⟩ from rfl,he]
  refine⟨dX p f,by rw[hm];omega,?_,?_,?_⟩
  .rw[hm,Iw];show (p.funcs.map (dX p))[i]?=_
   rw[List.getElem?_map,ak];rfl
  .show bX f.params=0
   rw[cq];rfl
  .show bD f.params=0
   rw[cq];rfl
 .show (p.globals.map (·.2)).length<=16
  rw[Ib];exact hp.pe
 .obtain⟨k,ap,rfl⟩:=Iz.1 aM;exact hp.inits k ap
end Go.Proofs.YtajlmkkidmjgoaaGreatDoor

/- Part 14 of the proof. No condition of its own. -/
import Derived.Test.YtglbpimocmhojaaGreatQ08
import Derived.Test.YtglbpimocmhojaaGreatQ13
namespace Go.Proofs.YtglbpimocmhojaaGreat
open Go.RowKit Go.Proofs.Tryz
set_option maxRecDepth 1000000
set_option maxHeartbeats 25600000
set_option linter.unusedVariables false
variable{n:ByteArray}{G:Env}{T V:Lq}{cs:List Value}{l:List aA}{L d k:Nat}{P:Nat->Prop}{w:World}{s:aA}{f:aJ}{p:bK}
def an.eM:List aA->an
 | []=>.nil
 | .set v n e::l=>.set v n e (eM l)
 | .call g n a1::l=>.call g n a1 (eM l)
 | .lock u r::l=>.lock u r (eM l)
 | .ite e th el::l=>.ite e th el (eM l)
 | .gv e th::l=>.gv e th (eM l)
 | .ret::l=>.ret (eM l)
theorem tV:∀l:List aA,(an.eM l).list=l
 | []=>rfl
 | s::l=>by cases s<;>simp only[an.eM,an.list,tV l]
theorem mr(l:List aA):c4 (.eM l)=l.map bg:=by rw[cF,tV]
def aA.decl:aA->List ByteArray
 | .set true n _=>[n]
 | _=>[]
def decls(l:List aA):List ByteArray:=l.flatMap aA.decl
theorem rh(l m:List aA):decls (l++m)=decls l++decls m:=List.flatMap_append
def an.all:an->List ByteArray
 | .nil=>[]
 | .set true n _ rest=>n::rest.all
 | .set false _ _ rest=>rest.all
 | .call _ _ _ rest=>rest.all
 | .lock _ _ rest=>rest.all
 | .ite _ th el rest=>th.all++el.all++rest.all
 | .gv _ th rest=>th.all++rest.all
 | .ret rest=>rest.all
def aA.all:aA->List ByteArray
 | .set true n _=>[n]
 | .ite _ th el=>th.all++el.all
 | .gv _ th=>th.all
 | _=>[]
theorem all_cons(s:aA)(l:List aA):(an.eM (s::l)).all=s.all++(an.eM l).all:=by
 cases s with
 | set v n e=>cases v<;>rfl
 | ite e th el=>simp[an.eM,an.all,aA.all]
 | gv e th=>simp[an.eM,an.all,aA.all]
 | call g n a1=>rfl
 | lock u r=>rfl
 | ret=>rfl
theorem xi(l m:List aA):(an.eM (l++m)).all=(an.eM l).all++(an.eM m).all:=by
 induction l with
 | nil=>rfl
 | cons s l ao=>rw[KS,all_cons,all_cons,ao,KR]
theorem Dh(s:aA)(h:n∈s.decl):n∈s.all:=by
 cases s with
 | set v n e=>cases v<;>simp_all [aA.decl,aA.all]
 | _=>simp[aA.decl] at h
theorem x5(l:List aA)(h:n∈decls l):n∈(an.eM l).all:=by
 induction l with
 | nil=>simp[decls] at h
 | cons s l ao=>
  rw[all_cons];unfold decls at h;rw[KX] at h;rcases KM.1 h with h|h
  .exact KM.2 (.inl (Dh s h))
  .exact KM.2 (.inr (ao h))
def aA.num:aA->Nat
 | .ite _ th el=>th.num+el.num+1
 | .gv _ th=>th.num+1
 | _=>1
theorem kC(s:aA)(l:List aA):(an.eM (s::l)).num=s.num+(an.eM l).num:=by
 cases s<;>simp only[an.eM,an.num,aA.num]<;>omega
theorem xG(l m:List aA):(an.eM (l++m)).num=(an.eM l).num+(an.eM m).num:=by
 induction l with
 | nil=>simp[an.eM,an.num]
 | cons s l ao=>rw[KS,kC,kC,ao,Nat.add_assoc]
theorem sS(s:aA):(an.eM [s]).num=s.num:=by rw[kC];simp[an.eM,an.num]
theorem tP(l:List aA):l.length<=(an.eM l).num:=by
 induction l with
 | nil=>simp
 | cons s l ao=>
  rw[kC];have:1<=s.num:=by cases s<;>simp[aA.num]
  simp;omega
def FJ(G:Env)(d:Nat)(V T:Lq):aA->Prop
 | .set true n e=>bD n.data.toList=true/\n∉T/\e.src V 2
 | .set false n e=>n∈V/\e.src V 2
 | .call _ n a1=>∃ps,(n,ps)∈G.funcs/\iM G V ps a1
 | .lock _ r=>rT G V r
 | .ite e th el=>∃k,d=k+1/\e.src V 2/\e4 G k V T th/\e4 G k V T el
 | .gv e th=>∃k,d=k+1/\e.src V 2/\e4 G k V T th
 | .ret=>True
theorem mY:e4 G d V T .nil:=by cases d<;>trivial
theorem mX:e4 G d V T (.eM (s::l))↔FJ G d V T s/\e4 G d (V++s.decl) (T++s.decl) (.eM l):=by
 cases s with
 | set v n e=>
  cases v
  .simp only[an.eM,aA.decl,FJ,Ld];cases d<;>exact⟨λh=>⟨⟨h.1,h.2.1⟩,h.2.2⟩,λh=>⟨h.1.1,h.1.2,h.2⟩⟩
  .simp only[an.eM,aA.decl,FJ]
   cases d<;>exact⟨λh=>⟨⟨h.1,h.2.1,h.2.2.1⟩,h.2.2.2⟩,λh=>⟨h.1.1,h.1.2.1,h.1.2.2,h.2⟩⟩
 | call g n a1=>
  exact zz
 | lock u r=>
  exact zz
 | ite e th el=>
  simp only[an.eM,aA.decl,FJ,Ld]
  cases d with
  | zero=>exact⟨λh=>h.elim,λ⟨⟨k,h,_⟩,_⟩=>ad⟩
  | succ d=>exact⟨λh=>⟨⟨d,rfl,h.1,h.2.1,h.2.2.1⟩,h.2.2.2⟩,λ⟨⟨k,h,ac,au,aU⟩,bE⟩=>by
    obtain rfl:d=k:=ad
    exact⟨ac,au,aU,bE⟩⟩
 | gv e th=>
  simp only[an.eM,aA.decl,FJ,Ld]
  cases d with
  | zero=>exact⟨λh=>h.elim,λ⟨⟨k,h,_⟩,_⟩=>ad⟩
  | succ d=>exact⟨λh=>⟨⟨d,rfl,h.1,h.2.1⟩,h.2.2⟩,λ⟨⟨k,h,ac,au⟩,bE⟩=>by
    obtain rfl:d=k:=ad
    exact⟨ac,au,bE⟩⟩
 | ret=>
  simp only[an.eM,aA.decl,FJ,Ld,true_and];cases d<;>exact Iff.rfl
theorem ta{G:Env}{d:Nat}:∀{V T:Lq} {l m:List aA},e4 G d V T (.eM (l++m))↔e4 G d V T (.eM l)/\e4 G d (V++decls l) (T++decls l) (.eM m)
 | V,T,[],m=>by simp[decls,an.eM,mY]
 | V,T,s::l,m=>by
  have ao:=ta (G:=G) (d:=d) (V:=V++s.decl) (T:=T++s.decl) (l:=l) (m:=m);rw[KS,mX,mX,ao];simp only[decls,KX,KR];exact and_assoc.symm
theorem tb:e4 G d V T (.eM [s])↔FJ G d V T s:=by
 rw[mX];exact⟨λh=>h.1,λh=>⟨h,mY⟩⟩
theorem dK{V aU:Lq}(h:V ⊆ aU):∀(d:Nat) (x:VE),x.src V d->x.src aU d
 | d,.num _,hx=>by cases d<;>exact hx
 | d,.g1 s,hx=>by
  have g:s∈V:=by cases d<;>exact hx
  have:=h g
  cases d<;>exact this
 | d,.loc _,hx=>by cases d<;>exact hx.elim
 | d,.iB _,hx=>by cases d<;>exact hx.elim
 | 0,.un _ _,hx=>hx.elim
 | 0,.bin _ _ _,hx=>hx.elim
 | d+1,.un _ x,hx=>⟨hx.1,dK h d x hx.2⟩
 | d+1,.bin _ x y,hx=>⟨hx.1,dK h d x hx.2.1,dK h d y hx.2.2⟩
theorem kJ{aU:Lq}(h:V ⊆ aU){r:eO}(a5:rT G V r):rT G aU r:=by
 rcases a5 with⟨m,hm,hn,ac,au⟩|hp
 .exact .inl ⟨m,hm,hn,λhs=>by obtain⟨e,he,ay⟩:=ac hs;exact⟨e,he,dK h 2 e ay⟩,au⟩
 .exact .inr hp
theorem nG{G:Env}{V aU:Lq}(h:V ⊆ aU):∀(ps:List (ByteArray×Bool)) (a1:List dn),iM G V ps a1->iM G aU ps a1
 | [],[],_=>trivial
 | p::ps,a::a1,bx=>by
  refine⟨?_,nG h ps a1 bx.2⟩
  cases a with
  | mx r=>exact⟨bx.1.1,kJ h bx.1.2⟩
  | ex e=>exact⟨bx.1.1,dK h 2 e bx.1.2⟩
 | [],_::_,bx=>bx.elim
 | _::_,[],bx=>bx.elim
theorem El{aU:Lq}(h:V ⊆ aU)(m:Lq):V++m ⊆ aU++m:=λx hx=>by
 rcases KM.1 hx with hx|hx
 .exact KM.2 (.inl (h hx))
 .exact KM.2 (.inr hx)
theorem vw{A a9:Lq}(h:∀x∈A,x∈a9->x∈T):∀x∈A,x∈a9++[n]->x∈T++[n]:=λx hx hm=>by
 rcases KM.1 hm with hm|hm
 .exact KM.2 (.inl (h x hx hm))
 .exact KM.2 (.inr hm)
theorem dd{G:Env}:∀(b:an) (d a:Nat) (V aU T a9:Lq),V ⊆ aU->(∀n∈b.all,n∈a9->n∈T)->d<=a->e4 G d V T b->e4 G a aU a9 b
 | .nil,d,a,V,aU,T,a9,hV,hT,hd,h=>mY
 | .set true n e rest,d,a,V,aU,T,a9,hV,hT,hd,h=>by
  have F:bD n.data.toList=true/\n∉T/\e.src V 2/\e4 G d (V++[n]) (T++[n]) rest:=by cases d<;>exact h
  have ao:=dd rest d a (V++[n]) (aU++[n]) (T++[n]) (a9++[n]) (El hV _) (vw λx hx=>hT x (by simp[an.all,hx])) hd F.2.2.2;have r:bD n.data.toList=true/\n∉a9/\e.src aU 2/\e4 G a (aU++[n]) (a9++[n]) rest:=⟨F.1,λhm=>F.2.1 (hT n (by simp[an.all]) hm),dK hV 2 e F.2.2.1,ao⟩
  cases a<;>exact r
 | .set false n e rest,d,a,V,aU,T,a9,hV,hT,hd,h=>by
  have F:n∈V/\e.src V 2/\e4 G d V T rest:=by cases d<;>exact h
  have ao:=dd rest d a V aU T a9 hV (λx hx=>hT x (by simp[an.all,hx])) hd F.2.2;have r:n∈aU/\e.src aU 2/\e4 G a aU a9 rest:=⟨hV F.1,dK hV 2 e F.2.1,ao⟩
  cases a<;>exact r
 | .call g n a1 rest,d,a,V,aU,T,a9,hV,hT,hd,h=>by
  have F:(∃ps,(n,ps)∈G.funcs/\iM G V ps a1)/\e4 G d V T rest:=by cases d<;>exact h
  have ao:=dd rest d a V aU T a9 hV (λx hx=>hT x (by simp[an.all,hx])) hd F.2;obtain⟨ps,cl,aJ⟩:=F.1;have r:(∃ps,(n,ps)∈G.funcs/\iM G aU ps a1)/\e4 G a aU a9 rest:=⟨⟨ps,cl,nG hV ps a1 aJ⟩,ao⟩
  cases a<;>exact r
 | .lock u r rest,d,a,V,aU,T,a9,hV,hT,hd,h=>by
  have F:rT G V r/\e4 G d V T rest:=by cases d<;>exact h
  have ao:=dd rest d a V aU T a9 hV (λx hx=>hT x (by simp[an.all,hx])) hd F.2;have r:rT G aU r/\e4 G a aU a9 rest:=⟨kJ hV F.1,ao⟩
  cases a<;>exact r
 | .ite e th el rest,0,a,V,aU,T,a9,hV,hT,hd,h=>h.elim
 | .gv e th rest,0,a,V,aU,T,a9,hV,hT,hd,h=>h.elim
 | .ite e th el rest,d+1,0,V,aU,T,a9,hV,hT,hd,h=>ad
 | .gv e th rest,d+1,0,V,aU,T,a9,hV,hT,hd,h=>ad
 | .ite e th el rest,d+1,a+1,V,aU,T,a9,hV,hT,hd,h=>
  ⟨dK hV 2 e h.1,dd th d a V aU T a9 hV (λx hx=>hT x (by simp[an.all,hx])) ad h.2.1,
   dd el d a V aU T a9 hV (λx hx=>hT x (by simp[an.all,hx])) ad h.2.2.1,dd rest (d+1) (a+1) V aU T a9 hV (λx hx=>hT x (by simp[an.all,hx])) hd h.2.2.2⟩
 | .gv e th rest,d+1,a+1,V,aU,T,a9,hV,hT,hd,h=>
  ⟨dK hV 2 e h.1,dd th d a V aU T a9 hV (λx hx=>hT x (by simp[an.all,hx])) ad h.2.1,dd rest (d+1) (a+1) V aU T a9 hV (λx hx=>hT x (by simp[an.all,hx])) hd h.2.2⟩
 | .ret rest,d,a,V,aU,T,a9,hV,hT,hd,h=>by
  have F:e4 G d V T rest:=by cases d<;>exact h
  have ao:=dd rest d a V aU T a9 hV (λx hx=>hT x (by simpa[an.all] using hx)) hd F;cases a<;>exact ao
def hg(k:Nat):ByteArray:=⟨#[118,UInt8.ofNat (97+k % 26),UInt8.ofNat (97+k / 26 % 26)]⟩
theorem yG{j:Nat}(bi:j<26)(ap:k<26)(h:hg j=hg k):j=k:=by
 unfold hg at h;rw[ByteArray.ext_iff] at h;have au:=congrArg (λa:Array UInt8=>a[1]!) h;have aU:(UInt8.ofNat (97+j % 26)).toNat=(UInt8.ofNat (97+k % 26)).toNat:=congrArg UInt8.toNat au;simp at aU;omega
theorem Et(ap:k<26):bD (hg k).data.toList=true:=by
 have:∀k:Fin 26,bD (hg k.val).data.toList=true:=by decide
 exact this ⟨k,ap⟩
structure Made(G:Env)(d:Nat)(V T:Lq)(L R:Nat)(l:List aA):Prop where
 wf:e4 G d V T (.eM l)
 all:∀n∈(an.eM l).all,∃k,R<=k/\k<L/\n=hg k
 num:(an.eM l).num<=2*(L - R)
 le:R<=L
theorem Made.nil(G:Env)(d:Nat)(V T:Lq)(L:Nat):Made G d V T L L []:=⟨mY,λn h=>by simp[an.eM,an.all] at h,by simp[an.eM,an.num],KD _⟩
def mf(T:Lq)(L:Nat):Prop:=∀k,k<L->hg k∉T
theorem Made.free{R:Nat}(h:Made G d V T L R l)(bR:L<=26)(J:mf T L):mf (T++decls l) R:=λk ap hm=>by
 rcases KM.1 hm with hm|hm
 .exact J k (aC h.le) hm
 .obtain⟨j,ac,au,aU⟩:=h.all _ (x5 l hm);have:=yG ad ad aU;omega
theorem Made.snoc{bJ a6:Nat}(h:Made G d V T L bJ l){m:List aA}(hm:e4 G d (V++decls l) (T++decls l) (.eM m))(bx:∀n∈(an.eM m).all,∃k,a6<=k/\k<bJ/\n=hg k)
  (hn:(an.eM m).num<=2*(bJ - a6)) (hle:a6<=bJ):Made G d V T L a6 (l++m):=by
 refine⟨ta.2 ⟨h.wf,hm⟩,λn hn=>?_,?_,KU hle h.le⟩
 .rw[xi] at hn;rcases KM.1 hn with hn|hn
  .obtain⟨k,ac,au,aU⟩:=h.all n hn;exact⟨k,ad,au,aU⟩
  .obtain⟨k,ac,au,aU⟩:=bx n hn;exact⟨k,ac,by have:=h.le;omega,aU⟩
 .rw[xG];have ac:=h.num;have au:=h.le;omega
def dN(i:Nat):ByteArray:=⟨#[103,UInt8.ofNat (48+i)]⟩
def iE(i:Nat):ByteArray:=⟨#[UInt8.ofNat (97+i)]⟩
def jx(i:Nat):ByteArray:=if i=0 then iF else ⟨#[102,UInt8.ofNat (48+i)]⟩
def tZ(i:Nat):ByteArray:=⟨#[112,UInt8.ofNat (48+i)]⟩
def eX:Nat->List ByteArray
 | 0=>[]
 | n+1=>tZ (n+1)::eX n
def wJ(ng nm nf:Nat):List ByteArray:=(List.range ng).map dN++(List.range nm).map iE++(List.range nf).map jx
def nR:List ByteArray:=wJ 2 4 4++eX 2
theorem pN:nR.Nodup:=by
 have h:(nR.map λs=>s.data.toList).Nodup:=by decide
 exact(List.pairwise_map.1 h).imp λbe e=>be (by rw[e])
theorem sG:∀s∈nR,bD s.data.toList=true:=by decide
theorem yd:mf nR 26:=by
 have h:∀k:Fin 26,(hg k.val).data.toList∉nR.map λs=>s.data.toList:=by decide
 intro k ap hm;exact h ⟨k,ap⟩ (Lc.2 ⟨_,hm,rfl⟩)
theorem wh{n:Nat}(h:n<=2):(eX n).Sublist (eX 2):=by
 obtain rfl|rfl|rfl:n=0\/n=1\/n=2:=ad
 .exact List.nil_sublist _
 .exact List.Sublist.cons _ (List.Sublist.refl _)
 .exact List.Sublist.refl _
theorem Ep{ng nm nf n:Nat}(ac:ng<=2)(au:nm<=4)(aU:nf<=4)(bE:n<=2):(wJ ng nm nf++eX n).Sublist nR:=by
 unfold nR wJ;refine List.Sublist.append (List.Sublist.append (List.Sublist.append ?_ ?_) ?_) (wh bE)
 .exact(List.range_sublist.2 ac).map _
 .exact(List.range_sublist.2 au).map _
 .exact(List.range_sublist.2 aU).map _
theorem ns{α:Type}{f:α->ByteArray}{h:Nat->ByteArray}{l:List α}(hl:∀i x,l[i]?=some x->f x=h i):l.map f=(List.range l.length).map h:=by
 apply List.ext_getElem?
 intro i;rw[List.getElem?_map,List.getElem?_map];by_cases an:i<l.length
 .have hx:l[i]?=some l[i]:=List.getElem?_eq_getElem an;rw[hx,List.getElem?_range an];simp[hl i _ hx]
 .rw[List.getElem?_eq_none ad,List.getElem?_eq_none (by simp;omega)];rfl
structure gB(p:bK):Prop where
 ng:p.globals.length<=2
 nm:1<=p.af.length/\p.af.length<=4
 nf:1<=p.funcs.length/\p.funcs.length<=4
 gs:∀i g,p.globals[i]?=some g->g.1=dN i∧-2<=g.2/\g.2<=2
 ms:∀i m,p.af[i]?=some m->m.name=iE i/\0<=m.size/\m.size<=3/\(m.re=true->m.size=0)
 fs:∀i f,p.funcs[i]?=some f->f.name=jx i/\(∃n,n<=2/\f.params.map (·.1)=eX n)/\(i=0->f.params=[])
theorem gB.wJ{p:bK}(h:gB p):bh p=wJ p.globals.length p.af.length p.funcs.length:=by
 unfold bh fo YtglbpimocmhojaaGreat.wJ;rw[ns λi x hx=>(h.gs i x hx).1,ns λi x hx=>(h.ms i x hx).1,ns λi x hx=>(h.fs i x hx).1]
theorem gB.sub(h:gB p)(J:f∈p.funcs):(bh p++f.params.map (·.1)).Sublist nR:=by
 obtain⟨i,an⟩:=List.getElem?_of_mem J;obtain⟨n,hn,hp⟩:=(h.fs i f an).2.1;rw[h.wJ,hp];exact Ep h.ng h.nm.2 h.nf.2 hn
theorem l3:∀n,(eX n).length=n
 | 0=>rfl
 | n+1=>by simp[eX,l3 n]
theorem gB.jy(h:gB p)(J:f∈p.funcs):f.params.length<=2:=by
 obtain⟨i,an⟩:=List.getElem?_of_mem J;obtain⟨n,hn,hp⟩:=(h.fs i f an).2.1;have:=congrArg List.length hp;rw[KH,l3] at this;omega
theorem gB.free(h:gB p)(J:f∈p.funcs):mf (bh p++f.params.map (·.1)) 26:=λk ap hm=>yd k ap ((h.sub J).subset hm)
theorem gB.Jx(h:gB p):∃f,p.funcs[0]?=some f/\f.name=iF/\f.params=[]:=by
 have:0<p.funcs.length:=h.nf.1;have hx:p.funcs[0]?=some p.funcs[0]:=List.getElem?_eq_getElem this;exact⟨_,hx,(h.fs 0 _ hx).1,(h.fs 0 _ hx).2.2 rfl⟩
theorem gB.env(h:gB p)(J:f∈p.funcs):nJ (hR p f):=by
 have ap:∀{f:aJ},f∈p.funcs->∀s∈bh p++f.params.map (·.1),bD s.data.toList=true:=λJ s hs=>sG s ((h.sub J).subset hs);refine⟨λm hm=>ap J _ ?_,λq bv=>ap J _ ?_,λg a2=>?_⟩
 .simp only[bh,KM,Lc];exact .inl (.inl (.inr ⟨m,hm,rfl⟩))
 .simp only[KM,Lc];exact .inr ⟨q,bv,rfl⟩
 .obtain⟨k,cN,rfl⟩:=Lc.1 a2;refine⟨ap cN _ ?_,h.jy cN⟩;simp only[bh,KM,Lc];exact .inl (.inr ⟨k,cN,rfl⟩)
theorem gB.vars(h:gB p)(J:f∈p.funcs):dI (fo p++cr f.params):=λs hs=>by
 refine sG s ((h.sub J).subset ?_);rcases KM.1 hs with hs|hs
 .exact KM.2 (.inl (by simp only[bh,KM];exact .inl (.inl hs)))
 .obtain⟨q,bv,rfl⟩:=Lc.1 hs;exact KM.2 (.inr (Lc.2 ⟨q,(List.mem_filter.1 bv).1,rfl⟩))
theorem gB.wf(h:gB p)(O:∀f∈p.funcs,e4 (hR p f) 4 (fo p++cr f.params) (bh p++f.params.map (·.1)) f.body)(hn:(p.funcs.map λf=>f.body.num).sum<=64):ot p:=by
 obtain⟨f0,h0,b,a⟩:=h.Jx;have ao:=KG h0;have hs:=h.sub ao;rw[a] at hs;simp only[Lb,Ld] at hs;refine⟨λs hm=>sG s (hs.subset hm),hs.nodup pN,by have:=h.ng;omega,by have:=h.nm;omega,by have:=h.nf;omega,λg a2=>?_,λm hm=>?_,λf J=>?_,⟨0,f0,h0,b,a⟩,hn⟩
 .obtain⟨i,an⟩:=List.getElem?_of_mem a2;have:=(h.gs i g an).2;omega
 .obtain⟨i,an⟩:=List.getElem?_of_mem hm;have:=(h.ms i m an).2;exact⟨this.1,ad,this.2.2⟩
 .refine⟨(h.env J).params,h.jy J,(h.sub J).nodup pN,O f J⟩
theorem oC(g:ByteArray×Int):(iz g).sz=2:=rfl
theorem mu{g:ByteArray×Int}:(iz g).rep w P cs↔cs=[.string g.1,.int .i64 g.2]:=by
 unfold iz;rw[bI,cp];exact CY
theorem tA(g:ByteArray×Bool):(ds g).sz=2:=rfl
theorem rl{g:ByteArray×Bool}:(ds g).rep w P cs↔cs=[.string g.1,.bool g.2]:=by
 exact Gt
theorem pD(f:aJ):(dr f).sz=3:=rfl
theorem ku(h:(dr f).rep w P cs):∃A n c B m d,cs=[.string f.name,.slice A n c,.slice B m d]/\Sl w P A n (f.params.map ds)/\Sl w P B m (c4 f.body):=by
 unfold dr at h;rw[bI,cp] at h;obtain⟨y,rfl,h⟩:=h;obtain⟨A,n,c,cd,rfl,_,ac,h⟩:=aN.1 h;obtain⟨B,m,d,bv,rfl,_,au,h⟩:=aN.1 h;rw[aP] at h;subst h;exact⟨_,_,_,_,_,_,rfl,ac,au⟩
theorem sE(m:bG):(ey m).sz=3:=rfl
theorem ja(n:Int):lA n=aU (hB n):=rfl
structure hk(w:World)(P:Nat->Prop)(p:bK)(GA:Lp)(gn:Nat)(MA:Lp)(mn:Nat)(FA:Lp)(fn:Nat):Prop where
 g:Sl w P GA gn (p.globals.map iz)
 m:Sl w P MA mn (p.af.map ey)
 f:Sl w P FA fn (p.funcs.map dr)
theorem oJ(s:ByteArray):s.size=s.data.toList.length:=rfl
theorem wm(l:List (ByteArray×Bool))(k:Nat):(ha (l.take k)).length<=(ha (l.take (k+1))).length:=by
 cases h:l[k]? with
 | none=>rw[KL (i:=k+1) (by have:=List.getElem?_eq_none_iff.1 h;omega),KL (List.getElem?_eq_none_iff.1 h)];exact KD _
 | some a=>rw[qk h];simp
theorem qj(l:List (ByteArray×Bool)):∀j k:Nat,(ha (l.take k)).length<=(ha (l.take (k+j))).length
 | 0,k=>KD _
 | j+1,k=>KU (qj l j k) (wm l (k+j))
theorem ue(l:List (ByteArray×Bool))(k:Nat):(ha (l.take k)).length<=(ha l).length:=by
 by_cases h:k<=l.length
 .have:=qj l (l.length - k) k;rw[show k+(l.length - k)=l.length by omega,List.take_length] at this;exact this
 .rw[KL ad];exact KD _
structure w3(p:bK):Prop where
 inits:∀g∈p.globals,-9223372036854775808<=g.2/\g.2<=9223372036854775807
 fx:∀m∈p.af,m.size<=9223372036854775807
 src:∀f∈p.funcs,nB f.body/\f.body.num<=900000/\f.params.length<=1000
 len:(aU (fE p)).length<=262144
 jy:p.globals.length<=1000/\p.af.length<=1000/\p.funcs.length<=1000
theorem ym(b:an)(h:nB b):hj b:=(Jw vU b h).1
namespace BF
theorem Ao{p:Prop}(h:p:=by
 generalize E:strOf (GT++(am++fk kd (p.funcs.take k)))=pre at *;have y:=ae E.symm;clear E;go_wp2;have bD:(((pre++(⟨#[102,117,110,99,32]⟩:ByteArray))++f.name)++(⟨#[40]⟩:ByteArray)).size<=600000:=by
  have ct:(⟨#[102,117,110,99,32]⟩:ByteArray).size=5:=rfl;have e1:(⟨#[40]⟩:ByteArray).size=1:=rfl;simp only[ByteArray.size_append];omega
 generalize K:((pre++(⟨#[102,117,110,99,32]⟩:ByteArray))++f.name)++(⟨#[40]⟩:ByteArray)=al at *;have S:=ae K.symm;clear K a0 ai af bt M;go_loopw [3,9] (λsv b0 b4=>∃j:Nat,j<=pn/\b0=.int .i64 j/\sv=.string (al++strOf (ha (f.params.take j)))/\Ext w b4/\aq b4 w.heap.size 27 #[.slice GA gn gc,.slice MA mn mc,.slice (some ⟨b,o,none⟩) fn fc]/\Ext V b4) (λ_ b0 _=>pn - (intOf b0).toNat)
 case atStart=>
  refine⟨0,ad,rfl,?_,bu.o,G.o,Ll⟩;have:strOf (ha (f.params.take 0))=⟨#[]⟩:=rfl;rw[this];congr 1
  rw[ByteArray.ext_iff];simp
 case round=>
  obtain⟨j,bi,rfl,rfl,aw,aR,hV⟩:=hrel;obtain⟨v,u,Q⟩:=eh aw aR hV;obtain⟨a0,ai,af⟩:=(bQ.ai hV).two;have az:(strOf (ha (f.params.take j))).size<=262144:=by
   rw[aO];exact KU (ue f.params j) aa.o
  by_cases X:j<pn
  .obtain⟨pb,eX,q,cs,rfl,dN,R,bC,bj,Z⟩:=(gL.on (Fr.ext hV)).g0 tA X;obtain rfl:=rl.1 bC;have c0:=Z 0 _ rfl;have c1:=Z 1 _ rfl;simp only[KN] at c0;have bP:pb<_:=dN;obtain⟨cg,qm⟩:=q;have bS:=qk R;have H:cg.size<=262144:=by
    have ac:=ue f.params (j+1);have au:=aa.o;rw[bS] at ac;simp only[KF] at ac;rw[oJ];omega
   simp only at bS c0 c1 H;have Y:=ae bS;clear aw aR hV bj Z R bC dN bS;by_cases h0:0<j
   .have q1:decide ((j:Int) > 0)=true:=by simp;omega
    cases qm
    all_goals
     go_wp2;go_roundw
     case rel=>
      refine⟨j+1,ad,by go_num,?_,v.o,u.o,Q.o⟩;rw[Y.o,if_pos h0];congr 1
      simp only[show (⟨#[44,32]⟩:ByteArray)=strOf [44,32] from rfl,show (⟨#[109,117,116,101,120,32]⟩:ByteArray)=strOf [109,117,116,101,120,32] from rfl];exact zv
     case measure=>exact aG
   .have q1:decide ((j:Int) > 0)=false:=by simp;omega
    cases qm
    all_goals
     go_wp2;go_roundw
     case rel=>
      refine⟨j+1,ad,by go_num,?_,v.o,u.o,Q.o⟩;rw[Y.o,if_neg h0];congr 1
      try simp only[show (⟨#[109,117,116,101,120,32]⟩:ByteArray)=strOf [109,117,116,101,120,32] from rfl]
      exact zv
     case measure=>exact aG
  .obtain rfl:pn=j:=ad;have ao:=ae (show ha (f.params.take pn)=ha f.params by rw[<-an.o,List.take_length]);rw[ao.o] at az ⊢;clear aw aR hV X;go_wp2_with(fail);refine((show hj f.body from U.1) 1 fu bn bc _ (aC U.2) (dw.on (Fr.ext Q.o)) I.o).mono ?_;rintro e hY ⟨rfl,T⟩;have eH:=ae (v.trans T);have N:=ae (u.ai T);clear T a0 ai af;go_wp2;go_roundw
   case rel=>
    refine⟨k+1,ad,by go_num,?_,eH.o,N.o⟩;obtain⟨c6,aj⟩:=i.o;rw[S.o,y.o,c6,aj];congr 1
    simp only[show (⟨#[102,117,110,99,32]⟩:ByteArray)=strOf [102,117,110,99,32] from rfl,show (⟨#[40]⟩:ByteArray)=strOf [40] from rfl,show (⟨#[41,32,123,10]⟩:ByteArray)=strOf [41,32,123,10] from rfl,show (⟨#[125,10]⟩:ByteArray)=strOf [125,10] from rfl];conv=>lhs;rw[<-db f.name]
    simp only[ag];simp
   case measure=>exact aG
 ):p:=h
theorem vi{p:Prop}(h:p:=by
 have hlen:=hp.len;have cY:gn<=1000:=by have:=hp.jy;omega
 have cG:mn<=1000:=by have:=hp.jy;omega
 have dK:fn<=1000:=by have:=hp.jy;omega
 rw[rI] at hlen;simp only[KF] at hlen;rw[rI];obtain⟨cn,cC,cQ,bT⟩:=iS hp a2 hm J;have b9:=aD dv lm lf;have F:=ae hlen;clear h a2 hm J dv lm lf hlen hp;go_enter func103,ntmps103;go_wp2;generalize ba:World.alloc _ _=W;have aw:=aX ba;have aR:=aK ba;clear ba;obtain⟨bq,b1⟩:=aH aw aR;clear aw aR;go_loopw [3,4] (λsv bd wr=>∃k:Nat,k<=gn/\bd=.int .i64 k/\sv=.string (strOf (fk hW (p.globals.take k)))/\Ext w wr/\aq wr w.heap.size 27 #[.slice GA gn gc,.slice MA mn mc,.slice FA fn fc]) (λ_ bd _=>gn - (intOf bd).toNat)
 case atStart=>exact⟨0,ad,rfl,rfl,bq.o,b1.o⟩
 case round=>
  obtain⟨k,ap,rfl,rfl,aw,aR⟩:=hrel;clear bq b1;obtain⟨bq,b1⟩:=aH aw aR;obtain⟨a0,ai,af⟩:=aR.two;have bt:(strOf (fk hW (p.globals.take k))).size<=262144:=by
   rw[aO];have ac:=kM hW p.globals k;have au:=F.o;omega
  by_cases ak:k<gn
  .obtain⟨b,o,g,cs,rfl,O,r,aP,bj,Z⟩:=(cC.on (Fr.ext aw)).g0 oC ak;obtain rfl:=mu.1 aP;have c0:=Z 0 _ rfl;have c1:=Z 1 _ rfl;simp only[KN] at c0;have aV:b<wr.heap.size:=O;obtain⟨nm,z⟩:=g;have a5:=cn.inits _ (KG r);have c6:=m4 (f:=hW) r;have aj:=DA (nm,z);have hle:=kM hW p.globals (k+1);have l:(fk hW (p.globals.take (k+1))).length<=262144:=by have:=F.o;omega
   rw[c6,aj] at l;simp only[KF] at l;have M:nm.size<=262144:=by rw[oJ];omega
   simp only at a5 aj c0 c1 M;by_cases h0:z=0
   .subst h0;have aL:=ae (show ((strOf (fk hW (p.globals.take k))++(⟨#[118,97,114,32]⟩:ByteArray))++nm)++(⟨#[59,10]⟩:ByteArray)=strOf (fk hW (p.globals.take (k+1))) by
     rw[c6,aj,show (⟨#[118,97,114,32]⟩:ByteArray)=strOf [118,97,114,32] from rfl,show (⟨#[59,10]⟩:ByteArray)=strOf [59,10] from rfl];conv=>lhs;rw[<-db nm]
     rw[ag,ag,ag];simp)
    clear aw aR r aP bj Z c6 aj hle l a5 O;go_wp2;go_roundw
    case rel=>exact⟨k+1,ad,by go_num,by rw[<-aL.o],bq.o,b1.o⟩
    case measure=>exact aG
   .have q1:(z != 0)=true:=by simpa using h0
    have cI:(z == 0)=false:=by simpa using h0
    rw[if_neg h0] at aj l;simp only[KF] at l;have s:(strOf (lA z)).size<=262144:=by rw[aO,ja];omega
    have aL:=ae (show ((((strOf (fk hW (p.globals.take k))++(⟨#[118,97,114,32]⟩:ByteArray))++nm)++(⟨#[32,61,32]⟩:ByteArray))++strOf (lA z))++(⟨#[59,10]⟩:ByteArray)=strOf (fk hW (p.globals.take (k+1))) by
     rw[c6,aj,show (⟨#[118,97,114,32]⟩:ByteArray)=strOf [118,97,114,32] from rfl,show (⟨#[59,10]⟩:ByteArray)=strOf [59,10] from rfl,show (⟨#[32,61,32]⟩:ByteArray)=strOf [32,61,32] from rfl,ja];conv=>lhs;rw[<-db nm]
     rw[ag,ag,ag,ag,ag];simp)
    clear aw aR r aP bj Z c6 aj hle l O h0;go_wp2_with(fail);refine(l1 z _ a5).mono ?_;rintro e aS ⟨rfl,ar⟩;have bu:=ae (bq.trans (Fr.of ar));have G:=ae (b1.ai (Fr.of ar));clear ar a0 ai af c0 c1;go_wp2;go_roundw
    case rel=>exact⟨k+1,ad,by go_num,by rw[<-aL.o],bu.o,G.o⟩
    case measure=>exact aG
  .obtain rfl:gn=k:=ad;have n:=ae (show fk hW (p.globals.take gn)=fk hW p.globals by rw[<-b9.1,List.take_length]);rw[n.o] at bt ⊢;clear aw aR;generalize ax:fk hW p.globals=GT at *;go_wp2;clear a0 ai af n;go_loopw [3,5] (λsv bd wr=>∃k:Nat,k<=mn/\bd=.int .i64 k/\sv=.string (strOf (GT++fk kf (p.af.take k)))/\Ext w wr/\aq wr w.heap.size 27 #[.slice GA gn gc,.slice MA mn mc,.slice FA fn fc]) (λ_ bd _=>mn - (intOf bd).toNat)
   case atStart=>exact⟨0,ad,rfl,by simp[fk],bq.o,b1.o⟩
   case round=>
    obtain⟨k,ap,rfl,rfl,aw,aR⟩:=hrel;clear bq b1 bt;obtain⟨bq,b1⟩:=aH aw aR;obtain⟨a0,ai,af⟩:=aR.two;have bt:(strOf (GT++fk kf (p.af.take k))).size<=262144:=by
     rw[aO,KF];have ac:=kM kf p.af k;have au:=F.o;omega
    by_cases dq:k<mn
    .obtain⟨b,o,m,cs,rfl,O,r,aP,bj,Z⟩:=(cQ.on (Fr.ext aw)).g0 sE dq;obtain rfl:=fb.1 aP;have c0:=Z 0 _ rfl;have c1:=Z 1 _ rfl;have c2:=Z 2 _ rfl;simp only[KN] at c0;have aV:b<wr.heap.size:=O;obtain⟨nm,re,z⟩:=m;have a5:=cn.fx _ (KG r);have c6:=m4 (f:=kf) r;have aj:=DN ⟨nm,re,z⟩;have hle:=kM kf p.af (k+1);have l:GT.length+(fk kf (p.af.take (k+1))).length<=262144:=by have:=F.o;omega
     rw[c6,aj] at l;simp only[KF] at l;have M:nm.size<=262144:=by rw[oJ];omega
     simp only at a5 aj c0 c1 c2 M;have s:0<z->(strOf (lA z)).size<=262144:=λh0=>by
      rw[if_pos h0] at l;simp only[KF] at l;rw[aO,ja];omega
     clear bj Z hle l r aP O aw aR;have P:=ae c6;go_upto_region 13 with(fail);generalize hV:World.alloc _ _=V;have L:=aX hV;have bu:=ae (bq.trans L);have G:=ae (b1.ai L);have hC:=aK hV;clear hV a0 ai af c0 c1 c2 aV bq b1 L c6;obtain⟨a0,ai,af⟩:=hC.two;clear hC;cases re
     all_goals
      by_cases h0:0<z
      .rw[if_pos h0] at aj;have ck:=s h0;have q1:decide (z > 0)=true:=by simpa using h0
       have c4:-9223372036854775808<=z/\z<=9223372036854775807:=ad;have i:=ae aj;clear aj h0 s;go_wp2_with(fail);refine(l1 z _ c4).mono ?_;rintro e aS ⟨rfl,ar⟩;have a4:=ae (bu.trans (Fr.of ar));have br:=ae (G.ai (Fr.of ar));clear ar a0 ai af;go_wp2;go_roundw
       case rel=>
        refine⟨k+1,ad,by go_num,?_,a4.o,br.o⟩;rw[P.o,i.o,<-ja];congr 1
        simp only[show (⟨#[114]⟩:ByteArray)=strOf [114] from rfl,show (⟨#[109,117,116,101,120,32]⟩:ByteArray)=strOf [109,117,116,101,120,32] from rfl,show (⟨#[91]⟩:ByteArray)=strOf [91] from rfl,show (⟨#[93]⟩:ByteArray)=strOf [93] from rfl,show (⟨#[59,10]⟩:ByteArray)=strOf [59,10] from rfl];conv=>lhs;rw[<-db nm]
        simp only[ag];simp
       case measure=>exact aG
      .rw[if_neg h0] at aj;have q1:decide (z > 0)=false:=by simp;omega
       have i:=ae aj;clear aj h0 s a5;go_wp2;go_roundw
       case rel=>
        refine⟨k+1,ad,by go_num,?_,bu.o,G.o⟩;rw[P.o,i.o];congr 1
        simp only[show (⟨#[114]⟩:ByteArray)=strOf [114] from rfl,show (⟨#[109,117,116,101,120,32]⟩:ByteArray)=strOf [109,117,116,101,120,32] from rfl,show (⟨#[59,10]⟩:ByteArray)=strOf [59,10] from rfl];conv=>lhs;rw[<-db nm]
        simp only[ag];simp
       case measure=>exact aG
    .obtain rfl:mn=k:=ad;have n:=ae (show fk kf (p.af.take mn)=fk kf p.af by rw[<-b9.2.1,List.take_length]);rw[n.o] at bt ⊢;clear aw aR;generalize ay:fk kf p.af=am at *;go_wp2;clear a0 ai af n;go_loopw [3,7] (λsv bd wr=>∃k:Nat,k<=fn/\bd=.int .i64 k/\sv=.string (strOf (GT++(am++fk kd (p.funcs.take k))))/\Ext w wr/\aq wr w.heap.size 27 #[.slice GA gn gc,.slice MA mn mc,.slice FA fn fc]) (λ_ bd _=>fn - (intOf bd).toNat)
     case atStart=>exact⟨0,ad,rfl,by simp[fk],bq.o,b1.o⟩
     case round=>
      obtain⟨k,ap,rfl,rfl,aw,aR⟩:=hrel;clear bq b1 bt;obtain⟨bq,b1⟩:=aH aw aR;obtain⟨a0,ai,af⟩:=aR.two;have bt:(strOf (GT++(am++fk kd (p.funcs.take k)))).size<=262144:=by
       rw[aO,KF,KF];have ac:=kM kd p.funcs k;have au:=F.o;omega
      by_cases bJ:k<fn
      .obtain⟨b,o,f,cs,rfl,O,r,aP,bj,Z⟩:=(bT.on (Fr.ext aw)).g0 pD bJ;obtain⟨PA,pn,pc,fu,bn,bc,rfl,cl,bl⟩:=ku aP;have c0:=Z 0 _ rfl;have c1:=Z 1 _ rfl;have c2:=Z 2 _ rfl;simp only[KN] at c0;have aV:b<wr.heap.size:=O;have a5:=cn.src _ (KG r);have c6:=m4 (f:=kd) r;have aj:=Ds f;have hle:=kM kd p.funcs (k+1);have l:GT.length+(am.length+(fk kd (p.funcs.take (k+1))).length)<=262144:=by have:=F.o;omega
       rw[c6,aj] at l;simp only[KF] at l;have M:f.name.size<=262144:=by rw[oJ];omega
       have aZ:(ha f.params).length<=262144:=ad;have bI:(cD 1 f.body).length<=262144:=ad;have bk:f.params.length=pn:=by rw[<-cl.1,KH]
       have gs:pn<=1000:=ad;obtain⟨aa,I,an⟩:=eh aZ bI bk;have U:=ah (ym f.body a5.1) a5.2.1;have aA:(strOf (cD 1 f.body)).size<=262144:=by rw[aO];exact bI
       have i:=ah c6 aj;clear bj Z hle l r aP O aw aR c6 aj a5 aZ bI bk;go_upto_region 23 with(fail);exact An
      .obtain rfl:fn=k:=ad;have n:=ae (show fk kd (p.funcs.take fn)=fk kd p.funcs by rw[<-b9.2.2,List.take_length]);rw[n.o];clear aw aR;go_wp2;go_ret;exact⟨ret_str (by rw[<-ax,<-ay]),bq.o⟩
 ):p:=h
end BF
open BF in
theorem uc(p:bK)(hp:w3 p)(GA:Lp)(gn gc:Nat)(MA:Lp)(mn mc:Nat)(FA:Lp)(fn fc:Nat)(w:World)(h:hk w (av w) p GA gn MA mn FA fn) :
  Calls prog 103 #[.agg #[.slice GA gn gc,.slice MA mn mc,.slice FA fn fc]] w λe ab=>e=.returned (.string (strOf (aU (fE p))))/\Ext w ab:=by
 exact vh
theorem Fb{l:List UInt8}(h:(dt l).2.2=0):l.length<=262144:=by
 unfold dt at h;split at h
 .simp at h
 .omega
theorem ot.print(hp:ot p):w3 p where
 inits:=λg a2=>by have:=hp.inits g a2;omega
 fx:=λm hm=>by have:=hp.fx m hm;omega
 src:=λf J=>⟨ji _ 4 (ki (hp.env J) f.body 4 _ _ (hp.vars J) (hp.funcs f J).body),by
  have ac:f.body.num<=(p.funcs.map λf=>f.body.num).sum:=jj (λf:aJ=>f.body.num) J;have:=hp.jy;omega,by have:=(hp.funcs f J).jy;omega⟩
 len:=Fb (ub hp)
 jy:=by
  have:=hp.nY;have:=hp.v8;have:=hp.DS;omega
theorem xS(w:World)(s:ByteArray)(cap:Nat)(hc:s.size<=cap)(hs:s.size<=1000000)(e:TypeId)(sp:Nat×Nat):ft (w.alloc (.cells (bytesRow s cap) e sp)) w.heap.size 0 cap s:=by
 refine⟨λi an=>?_,by simp,hc,hs⟩;rw[KV,cell_of_row _ _ i _ e sp (heap_alloc_new w _)];unfold bytesRow;rw[Array.getElem?_append_left (by simpa using an)];simp only[Array.getElem?_map];rw[Array.getElem?_eq_getElem (by simpa using an)];rfl
namespace BN
theorem Ao{p:Prop}(h:p:=by
 go_wp2_with(fail);refine(g6 f.name _ bZ).mono ?_;rintro e aS ⟨rfl,ar⟩;rw[i.o];have a4:=ae (bu.trans ar);have br:=ae (G.ai ar);have bt:=ae (bQ.ai ar);have l:=ae ar;clear ar a0 ai af;obtain⟨a0,ai,af⟩:=bt.two;go_wp2_with(fail);refine((show FO f.body from tY f.body) 4 0 _ _ _ _ ac.o (aC fG.o) ad (dw.on (Fr.ext l.o))).mono ?_;rintro e aT ⟨rfl,bw⟩;have a9:=ae (a4.trans bw);have a7:=ae (br.ai bw);have T:=ae (bt.ai bw);have ah:=ae (l.trans bw);clear bw a0 ai af;obtain⟨a0,ai,af⟩:=T.two;go_wp2;clear a0 ai af;go_loopw [8] (λb0 b4=>∃j:Nat,j<=pn/\b0=.int .i64 j/\Ext w b4/\aq b4 w.heap.size 27 #[.slice GA gn gc,.slice MA mn mc,.slice (some ⟨b,o,none⟩) fn fc]/\Ext V b4) (λb0 _=>pn - (intOf b0).toNat)
 case atStart=>exact⟨0,ad,rfl,a9.o,a7.o,ah.o⟩
 case round=>
  obtain⟨j,bi,rfl,aw,aR,hV⟩:=hrel;obtain⟨v,u,Q⟩:=eh aw aR hV;obtain⟨a0,ai,af⟩:=(bQ.ai hV).two;by_cases X:j<pn
  .obtain⟨pb,eX,q,cs,rfl,dN,R,bC,bj,Z⟩:=(gL.on (Fr.ext hV)).g0 tA X;obtain rfl:=rl.1 bC;have c0:=Z 0 _ rfl;have c1:=Z 1 _ rfl;simp only[KN] at c0;have bP:pb<_:=dN;have H:=y.params _ (KG R);obtain⟨cg,qm⟩:=q;simp only at H c0 c1;have ag:=ae (show jC cg=true from H);have ao:=h9 H;clear aw aR hV bj Z R bC dN H;go_wp2_with(fail);refine(g6 cg _ ao).mono ?_;rintro e cL ⟨rfl,du⟩;rw[ag.o];have F:=ae (v.trans du);have N:=ae (u.ai du);have al:=ae (Q.trans du);clear du a0 ai af c0 c1 bP;go_wp2;go_roundw
   case rel=>exact⟨j+1,ad,by go_num,F.o,N.o,al.o⟩
   case measure=>exact aG
  .obtain rfl:pn=j:=ad;clear aw aR hV X;go_wp2;go_roundw
   case rel=>exact⟨k+1,ad,by go_num,v.o,u.o⟩
   case measure=>exact aG
 ):p:=h
theorem so{p:Prop}(h:p:=by
 obtain⟨cn,cC,cQ,bT,aj⟩:=CJ hp a2 hm J hp.names;clear h a2 hm J dv lm lf hp;go_enter func67,ntmps67;go_upto_region 1 with(fail);generalize ba:World.alloc _ _=W;have aw:=aX ba;have aR:=aK ba;clear ba;obtain⟨bq,b1⟩:=aH aw aR;obtain⟨a0,ai,af⟩:=aR.two;clear aw aR;go_wp2;clear a0 ai af;go_loopw [3] (λbd wr=>∃k:Nat,k<=gn/\bd=.int .i64 k/\Ext w wr/\aq wr w.heap.size 27 #[.slice GA gn gc,.slice MA mn mc,.slice FA fn fc]) (λbd _=>gn - (intOf bd).toNat)
 case atStart=>exact⟨0,ad,rfl,bq.o,b1.o⟩
 case round=>
  obtain⟨k,ap,rfl,aw,aR⟩:=hrel;clear bq b1;obtain⟨bq,b1⟩:=aH aw aR;obtain⟨a0,ai,af⟩:=aR.two;by_cases ak:k<gn
  .obtain⟨b,o,g,cs,rfl,O,r,aP,bj,Z⟩:=(cC.on (Fr.ext aw)).g0 oC ak;obtain rfl:=mu.1 aP;have c0:=Z 0 _ rfl;have c1:=Z 1 _ rfl;simp only[KN] at c0;have aV:b<_:=O;obtain⟨nm,z⟩:=g;have a5:=cn.inits _ (KG r);have I:bD nm.data.toList=true:=aj.o nm (by simp only[bh,fo,KM,Lc];exact .inl (.inl ⟨_,KG r,rfl⟩));have i:=ae (show jC nm=true from I);have bZ:=h9 I;simp only at a5 c0 c1;have bV:(z == -9223372036854775808)=false:=by simp;omega
   clear aw aR r aP bj Z O I;go_wp2_with(fail);refine(g6 nm _ bZ).mono ?_;rintro e aS ⟨rfl,ar⟩;rw[i.o];have bu:=ae (bq.trans ar);have G:=ae (b1.ai ar);have f1:=(ar.cell (j:=o+k*2+1) aV (λh=>h)).trans c1;have bS:b<aS.heap.size:=KE aV ar.size;clear ar a0 ai af c0 c1 aV;obtain⟨a0,ai,af⟩:=G.two;go_wp2;go_roundw
   case rel=>exact⟨k+1,ad,by go_num,bu.o,G.o⟩
   case measure=>exact aG
  .obtain rfl:gn=k:=ad;clear aw aR;go_wp2;clear a0 ai af;go_loopw [4] (λbd wr=>∃k:Nat,k<=mn/\bd=.int .i64 k/\Ext w wr/\aq wr w.heap.size 27 #[.slice GA gn gc,.slice MA mn mc,.slice FA fn fc]) (λbd _=>mn - (intOf bd).toNat)
   case atStart=>exact⟨0,ad,rfl,bq.o,b1.o⟩
   case round=>
    obtain⟨k,ap,rfl,aw,aR⟩:=hrel;clear bq b1;obtain⟨bq,b1⟩:=aH aw aR;obtain⟨a0,ai,af⟩:=aR.two;by_cases dq:k<mn
    .obtain⟨b,o,m,cs,rfl,O,r,aP,bj,Z⟩:=(cQ.on (Fr.ext aw)).g0 sE dq;obtain rfl:=fb.1 aP;have c0:=Z 0 _ rfl;have c1:=Z 1 _ rfl;have c2:=Z 2 _ rfl;simp only[KN] at c0;have aV:b<_:=O;obtain⟨nm,re,z⟩:=m;have a5:=cn.fx _ (KG r);have I:bD nm.data.toList=true:=aj.o nm (by simp only[bh,KM,Lc];exact .inl (.inr ⟨_,KG r,rfl⟩));have i:=ae (show jC nm=true from I);have bZ:=h9 I;simp only at a5 c0 c1 c2;have q1:decide (z<0)=false:=by simp;omega
     have cI:decide (z > 64)=false:=by simp;omega
     clear bj Z r aP O aw aR I;go_upto_region 12 with(fail);generalize hV:World.alloc _ _=V;have L:=aX hV;have bu:=ae (bq.trans L);have G:=ae (b1.ai L);have hC:=aK hV;have bQ:=ae hC;clear hV a0 ai af c0 c1 c2 aV bq b1 L;obtain⟨a0,ai,af⟩:=hC.two;clear hC;go_wp2_with(fail);refine(g6 nm _ bZ).mono ?_;rintro e aS ⟨rfl,ar⟩;rw[i.o];have a4:=ae (bu.trans ar);have br:=ae (G.ai ar);have an:=bQ.ai ar;clear ar a0 ai af;obtain⟨a0,ai,af⟩:=an.two;clear an
     cases re with
     | false=>
      exact Gj
     | true=>
      obtain rfl:z=0:=a5.2.2 rfl;exact Gj
    .obtain rfl:mn=k:=ad;clear aw aR;go_wp2;clear a0 ai af;go_loopw [6] (λbd wr=>∃k:Nat,k<=fn/\bd=.int .i64 k/\Ext w wr/\aq wr w.heap.size 27 #[.slice GA gn gc,.slice MA mn mc,.slice FA fn fc]) (λbd _=>fn - (intOf bd).toNat)
     case atStart=>exact⟨0,ad,rfl,bq.o,b1.o⟩
     case round=>
      obtain⟨k,ap,rfl,aw,aR⟩:=hrel;clear bq b1;obtain⟨bq,b1⟩:=aH aw aR;obtain⟨a0,ai,af⟩:=aR.two;by_cases bJ:k<fn
      .obtain⟨b,o,f,cs,rfl,O,r,aP,bj,Z⟩:=(bT.on (Fr.ext aw)).g0 pD bJ;obtain⟨PA,pn,pc,fu,bn,bc,rfl,cl,bl⟩:=ku aP;have c0:=Z 0 _ rfl;have c1:=Z 1 _ rfl;have c2:=Z 2 _ rfl;simp only[KN] at c0;have aV:b<_:=O;have cX:=KG r;have I:bD f.name.data.toList=true:=aj.o f.name (by simp only[bh,KM,Lc];exact .inr ⟨_,cX,rfl⟩);have i:=ae (show jC f.name=true from I);have bZ:=h9 I;have bk:f.params.length=pn:=by rw[<-cl.1,KH]
       have gs:pn<=2:=by have:=(cn.funcs f cX).jy;omega
       have y:=ae (cn.funcs f cX);have ac:=ae (ki (cn.env cX) f.body 4 _ _ (cn.vars cX) (cn.funcs f cX).body);have fG:=ae (cn.print.src f cX).2.1;clear bj Z r aP O aw aR I bk cX;go_upto_region 18 with(fail);exact An
      .obtain rfl:fn=k:=ad;have s:=ae (show hk _ (av _) p GA gn MA mn FA fn from ⟨cC.on (Fr.ext aw),cQ.on (Fr.ext aw),bT.on (Fr.ext aw)⟩);clear aw aR;go_wp2_with(fail);refine(uc p cn.print GA gn gc MA mn mc FA fn fc _ s.o).mono ?_;rintro e c7 ⟨rfl,aI⟩;have F:=ae (bq.trans aI);have kc:=run_bytes_of_string (P:=prog) c7 9 127 5 (strOf (aU (fE p))) Tryz.underlying9 Tryz.underlying127 Tryz.underlying5;have hlen:(strOf (aU (fE p))).size<=262144:=by rw[aO];exact cn.print.len
       have K:=ae (ub cn.o);have am:(strOf (aU (fE p))).data.toList=aU (fE p):=by simp[strOf]
       generalize hS:strOf (aU (fE p))=S at *;have a1:=grownCap_ge c7 S.size 0 5;generalize M:grownCap c7 S.size 0 5=cap at *;clear aI a0 ai af M;go_wp2_with(fail);generalize hV:World.alloc _ _=V;have hT:ft V c7.heap.size 0 cap S:=by
        rw[<-hV];exact xS c7 S cap a1 ad _ _
       have L:=aX hV;have aM:=ae (F.trans L);clear hV L kc;refine(xy S c7.heap.size 0 cap V.drew (hT.on Ll.drew) hlen).mono ?_;rintro e cU ⟨A,n,c,rfl,U,cf,aa⟩;have Y:=ae (aM.drew.trans (Fr.of aa));rw[show (dt S.data.toList).2.2=0 by rw[am];exact K.o];clear cf aa hT;go_wp2;go_ret;exact⟨rfl,Y.o⟩
 ):p:=h
theorem vi{p:Prop}(h:p:=by
 exact sn
 ):p:=h
end BN
open BN in
theorem FH(p:bK)(hp:ot p)(GA:Lp)(gn gc:Nat)(MA:Lp)(mn mc:Nat)(FA:Lp)(fn fc:Nat)(w:World)(h:hk w (av w) p GA gn MA mn FA fn) :
  Calls prog 67 #[.agg #[.slice GA gn gc,.slice MA mn mc,.slice FA fn fc]] w λe ab=>e=.returned (.bool true)/\Ext w ab:=by
 exact vh
end Go.Proofs.YtglbpimocmhojaaGreat

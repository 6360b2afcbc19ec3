/- Part 14 of the proof. No condition of its own. -/
import Derived.Test.YtflecliffjbleaaGreatQ08
import Derived.Test.YtflecliffjbleaaGreatQ13
namespace Go.Proofs.YtflecliffjbleaaGreat
open Go.RowKit Go.Proofs.Tryz
set_option maxRecDepth 1000000
set_option maxHeartbeats 25600000
set_option linter.unusedVariables false
variable{n:ByteArray}{G:Env}{T V:LQ}{cs:List Value}{l:List ax}{L d k:Nat}{P:Nat->Prop}{w:World}{f:aA}{s:ax}{p:bD}
def ak.eH:List ax->ak
 | []=>.nil
 | .set v n e::l=>.set v n e (eH l)
 | .call g n aI::l=>.call g n aI (eH l)
 | .lock u r::l=>.lock u r (eH l)
 | .ite e th el::l=>.ite e th el (eH l)
 | .gp e th::l=>.gp e th (eH l)
 | .ret::l=>.ret (eH l)
theorem ux:∀l:List ax,(ak.eH l).list=l
 | []=>rfl
 | s::l=>by cases s<;>simp only[ak.eH,ak.list,ux l]
theorem mO(l:List ax):cY (.eH l)=l.map a9:=by rw[cC,ux]
def ax.decl:ax->List ByteArray
 | .set true n _=>[n]
 | _=>[]
def decls(l:List ax):List ByteArray:=l.flatMap ax.decl
theorem rK(l m:List ax):decls (l++m)=decls l++decls m:=List.flatMap_append
def ak.all:ak->List ByteArray
 | .nil=>[]
 | .set true n _ rest=>n::rest.all
 | .set false _ _ rest=>rest.all
 | .call _ _ _ rest=>rest.all
 | .lock _ _ rest=>rest.all
 | .ite _ th el rest=>th.all++el.all++rest.all
 | .gp _ th rest=>th.all++rest.all
 | .ret rest=>rest.all
def ax.all:ax->List ByteArray
 | .set true n _=>[n]
 | .ite _ th el=>th.all++el.all
 | .gp _ th=>th.all
 | _=>[]
theorem all_cons(s:ax)(l:List ax):(ak.eH (s::l)).all=s.all++(ak.eH l).all:=by
 cases s with
 | set v n e=>cases v<;>rfl
 | ite e th el=>simp[ak.eH,ak.all,ax.all]
 | gp e th=>simp[ak.eH,ak.all,ax.all]
 | call g n aI=>rfl
 | lock u r=>rfl
 | ret=>rfl
theorem xJ(l m:List ax):(ak.eH (l++m)).all=(ak.eH l).all++(ak.eH m).all:=by
 induction l with
 | nil=>rfl
 | cons s l ao=>rw[Lq,all_cons,all_cons,ao,Lp]
theorem Db(s:ax)(h:n∈s.decl):n∈s.all:=by
 cases s with
 | set v n e=>cases v<;>simp_all [ax.decl,ax.all]
 | _=>simp[ax.decl] at h
theorem yA(l:List ax)(h:n∈decls l):n∈(ak.eH l).all:=by
 induction l with
 | nil=>simp[decls] at h
 | cons s l ao=>
  rw[all_cons];unfold decls at h;rw[Lv] at h;rcases Lk.1 h with h|h
  .exact Lk.2 (.inl (Db s h))
  .exact Lk.2 (.inr (ao h))
def ax.num:ax->Nat
 | .ite _ th el=>th.num+el.num+1
 | .gp _ th=>th.num+1
 | _=>1
theorem kR(s:ax)(l:List ax):(ak.eH (s::l)).num=s.num+(ak.eH l).num:=by
 cases s<;>simp only[ak.eH,ak.num,ax.num]<;>omega
theorem x7(l m:List ax):(ak.eH (l++m)).num=(ak.eH l).num+(ak.eH m).num:=by
 induction l with
 | nil=>simp[ak.eH,ak.num]
 | cons s l ao=>rw[Lq,kR,kR,ao,Nat.add_assoc]
theorem td(s:ax):(ak.eH [s]).num=s.num:=by rw[kR];simp[ak.eH,ak.num]
theorem ur(l:List ax):l.length<=(ak.eH l).num:=by
 induction l with
 | nil=>simp
 | cons s l ao=>
  rw[kR];have:1<=s.num:=by cases s<;>simp[ax.num]
  simp;omega
def F0(G:Env)(d:Nat)(V T:LQ):ax->Prop
 | .set true n e=>bq n.data.toList=true/\n∉T/\e.src V 2
 | .set false n e=>n∈V/\e.src V 2
 | .call _ n aI=>∃ps,(n,ps)∈G.funcs/\h2 G V ps aI
 | .lock _ r=>rf G V r
 | .ite e th el=>∃k,d=k+1/\e.src V 2/\eM G k V T th/\eM G k V T el
 | .gp e th=>∃k,d=k+1/\e.src V 2/\eM G k V T th
 | .ret=>True
theorem lF:eM G d V T .nil:=by cases d<;>trivial
theorem nn:eM G d V T (.eH (s::l))↔F0 G d V T s/\eM G d (V++s.decl) (T++s.decl) (.eH l):=by
 cases s with
 | set v n e=>
  cases v
  .simp only[ak.eH,ax.decl,F0,LC];cases d<;>exact⟨λh=>⟨⟨h.1,h.2.1⟩,h.2.2⟩,λh=>⟨h.1.1,h.1.2,h.2⟩⟩
  .simp only[ak.eH,ax.decl,F0]
   cases d<;>exact⟨λh=>⟨⟨h.1,h.2.1,h.2.2.1⟩,h.2.2.2⟩,λh=>⟨h.1.1,h.1.2.1,h.1.2.2,h.2⟩⟩
 | call g n aI=>
  exact zZ
 | lock u r=>
  exact zZ
 | ite e th el=>
  simp only[ak.eH,ax.decl,F0,LC]
  cases d with
  | zero=>exact⟨λh=>h.elim,λ⟨⟨k,h,_⟩,_⟩=>ab⟩
  | succ d=>exact⟨λh=>⟨⟨d,rfl,h.1,h.2.1,h.2.2.1⟩,h.2.2.2⟩,λ⟨⟨k,h,ae,aD,aU⟩,a1⟩=>by
    obtain rfl:d=k:=ab
    exact⟨ae,aD,aU,a1⟩⟩
 | gp e th=>
  simp only[ak.eH,ax.decl,F0,LC]
  cases d with
  | zero=>exact⟨λh=>h.elim,λ⟨⟨k,h,_⟩,_⟩=>ab⟩
  | succ d=>exact⟨λh=>⟨⟨d,rfl,h.1,h.2.1⟩,h.2.2⟩,λ⟨⟨k,h,ae,aD⟩,a1⟩=>by
    obtain rfl:d=k:=ab
    exact⟨ae,aD,a1⟩⟩
 | ret=>
  simp only[ak.eH,ax.decl,F0,LC,true_and];cases d<;>exact Iff.rfl
theorem tB{G:Env}{d:Nat}:∀{V T:LQ} {l m:List ax},eM G d V T (.eH (l++m))↔eM G d V T (.eH l)/\eM G d (V++decls l) (T++decls l) (.eH m)
 | V,T,[],m=>by simp[decls,ak.eH,lF]
 | V,T,s::l,m=>by
  have ao:=tB (G:=G) (d:=d) (V:=V++s.decl) (T:=T++s.decl) (l:=l) (m:=m);rw[Lq,nn,nn,ao];simp only[decls,Lv,Lp];exact and_assoc.symm
theorem tC:eM G d V T (.eH [s])↔F0 G d V T s:=by
 rw[nn];exact⟨λh=>h.1,λh=>⟨h,lF⟩⟩
theorem dF{V az:LQ}(h:V ⊆ az):∀(d:Nat) (x:VE),x.src V d->x.src az d
 | d,.num _,hx=>by cases d<;>exact hx
 | d,.gT s,hx=>by
  have g:s∈V:=by cases d<;>exact hx
  have:=h g
  cases d<;>exact this
 | d,.loc _,hx=>by cases d<;>exact hx.elim
 | d,.iz _,hx=>by cases d<;>exact hx.elim
 | 0,.un _ _,hx=>hx.elim
 | 0,.bin _ _ _,hx=>hx.elim
 | d+1,.un _ x,hx=>⟨hx.1,dF h d x hx.2⟩
 | d+1,.bin _ x y,hx=>⟨hx.1,dF h d x hx.2.1,dF h d y hx.2.2⟩
theorem k2{az:LQ}(h:V ⊆ az){r:eN}(aQ:rf G V r):rf G az r:=by
 rcases aQ with⟨m,hm,hn,ae,aD⟩|hp
 .exact .inl ⟨m,hm,hn,λhs=>by obtain⟨e,he,av⟩:=ae hs;exact⟨e,he,dF h 2 e av⟩,aD⟩
 .exact .inr hp
theorem nW{G:Env}{V az:LQ}(h:V ⊆ az):∀(ps:List (ByteArray×Bool)) (aI:List dd),h2 G V ps aI->h2 G az ps aI
 | [],[],_=>trivial
 | p::ps,a::aI,aW=>by
  refine⟨?_,nW h ps aI aW.2⟩
  cases a with
  | mx r=>exact⟨aW.1.1,k2 h aW.1.2⟩
  | ex e=>exact⟨aW.1.1,dF h 2 e aW.1.2⟩
 | [],_::_,aW=>aW.elim
 | _::_,[],aW=>aW.elim
theorem Ek{az:LQ}(h:V ⊆ az)(m:LQ):V++m ⊆ az++m:=λx hx=>by
 rcases Lk.1 hx with hx|hx
 .exact Lk.2 (.inl (h hx))
 .exact Lk.2 (.inr hx)
theorem vW{A a7:LQ}(h:∀x∈A,x∈a7->x∈T):∀x∈A,x∈a7++[n]->x∈T++[n]:=λx hx hm=>by
 rcases Lk.1 hm with hm|hm
 .exact Lk.2 (.inl (h x hx hm))
 .exact Lk.2 (.inr hm)
theorem dc{G:Env}:∀(b:ak) (d a:Nat) (V az T a7:LQ),V ⊆ az->(∀n∈b.all,n∈a7->n∈T)->d<=a->eM G d V T b->eM G a az a7 b
 | .nil,d,a,V,az,T,a7,hV,hT,hd,h=>lF
 | .set true n e rest,d,a,V,az,T,a7,hV,hT,hd,h=>by
  have q:bq n.data.toList=true/\n∉T/\e.src V 2/\eM G d (V++[n]) (T++[n]) rest:=by cases d<;>exact h
  have ao:=dc rest d a (V++[n]) (az++[n]) (T++[n]) (a7++[n]) (Ek hV _) (vW λx hx=>hT x (by simp[ak.all,hx])) hd q.2.2.2;have r:bq n.data.toList=true/\n∉a7/\e.src az 2/\eM G a (az++[n]) (a7++[n]) rest:=⟨q.1,λhm=>q.2.1 (hT n (by simp[ak.all]) hm),dF hV 2 e q.2.2.1,ao⟩
  cases a<;>exact r
 | .set false n e rest,d,a,V,az,T,a7,hV,hT,hd,h=>by
  have q:n∈V/\e.src V 2/\eM G d V T rest:=by cases d<;>exact h
  have ao:=dc rest d a V az T a7 hV (λx hx=>hT x (by simp[ak.all,hx])) hd q.2.2;have r:n∈az/\e.src az 2/\eM G a az a7 rest:=⟨hV q.1,dF hV 2 e q.2.1,ao⟩
  cases a<;>exact r
 | .call g n aI rest,d,a,V,az,T,a7,hV,hT,hd,h=>by
  have q:(∃ps,(n,ps)∈G.funcs/\h2 G V ps aI)/\eM G d V T rest:=by cases d<;>exact h
  have ao:=dc rest d a V az T a7 hV (λx hx=>hT x (by simp[ak.all,hx])) hd q.2;obtain⟨ps,cq,aA⟩:=q.1;have r:(∃ps,(n,ps)∈G.funcs/\h2 G az ps aI)/\eM G a az a7 rest:=⟨⟨ps,cq,nW hV ps aI aA⟩,ao⟩
  cases a<;>exact r
 | .lock u r rest,d,a,V,az,T,a7,hV,hT,hd,h=>by
  have q:rf G V r/\eM G d V T rest:=by cases d<;>exact h
  have ao:=dc rest d a V az T a7 hV (λx hx=>hT x (by simp[ak.all,hx])) hd q.2;have r:rf G az r/\eM G a az a7 rest:=⟨k2 hV q.1,ao⟩
  cases a<;>exact r
 | .ite e th el rest,0,a,V,az,T,a7,hV,hT,hd,h=>h.elim
 | .gp e th rest,0,a,V,az,T,a7,hV,hT,hd,h=>h.elim
 | .ite e th el rest,d+1,0,V,az,T,a7,hV,hT,hd,h=>ab
 | .gp e th rest,d+1,0,V,az,T,a7,hV,hT,hd,h=>ab
 | .ite e th el rest,d+1,a+1,V,az,T,a7,hV,hT,hd,h=>
  ⟨dF hV 2 e h.1,dc th d a V az T a7 hV (λx hx=>hT x (by simp[ak.all,hx])) ab h.2.1,
   dc el d a V az T a7 hV (λx hx=>hT x (by simp[ak.all,hx])) ab h.2.2.1,dc rest (d+1) (a+1) V az T a7 hV (λx hx=>hT x (by simp[ak.all,hx])) hd h.2.2.2⟩
 | .gp e th rest,d+1,a+1,V,az,T,a7,hV,hT,hd,h=>
  ⟨dF hV 2 e h.1,dc th d a V az T a7 hV (λx hx=>hT x (by simp[ak.all,hx])) ab h.2.1,dc rest (d+1) (a+1) V az T a7 hV (λx hx=>hT x (by simp[ak.all,hx])) hd h.2.2⟩
 | .ret rest,d,a,V,az,T,a7,hV,hT,hd,h=>by
  have q:eM G d V T rest:=by cases d<;>exact h
  have ao:=dc rest d a V az T a7 hV (λx hx=>hT x (by simpa[ak.all] using hx)) hd q;cases a<;>exact ao
def ha(k:Nat):ByteArray:=⟨#[118,UInt8.ofNat (97+k % 26),UInt8.ofNat (97+k / 26 % 26)]⟩
theorem zj{j:Nat}(bd:j<26)(ai:k<26)(h:ha j=ha k):j=k:=by
 unfold ha at h;rw[ByteArray.ext_iff] at h;have aD:=congrArg (λa:Array UInt8=>a[1]!) h;have aU:(UInt8.ofNat (97+j % 26)).toNat=(UInt8.ofNat (97+k % 26)).toNat:=congrArg UInt8.toNat aD;simp at aU;omega
theorem Ew(ai:k<26):bq (ha k).data.toList=true:=by
 have:∀k:Fin 26,bq (ha k.val).data.toList=true:=by decide
 exact this ⟨k,ai⟩
structure Made(G:Env)(d:Nat)(V T:LQ)(L R:Nat)(l:List ax):Prop where
 wf:eM G d V T (.eH l)
 all:∀n∈(ak.eH l).all,∃k,R<=k/\k<L/\n=ha k
 num:(ak.eH l).num<=2*(L - R)
 le:R<=L
theorem Made.nil(G:Env)(d:Nat)(V T:LQ)(L:Nat):Made G d V T L L []:=⟨lF,λn h=>by simp[ak.eH,ak.all] at h,by simp[ak.eH,ak.num],Lb _⟩
def mD(T:LQ)(L:Nat):Prop:=∀k,k<L->ha k∉T
theorem Made.free{R:Nat}(h:Made G d V T L R l)(bo:L<=26)(J:mD T L):mD (T++decls l) R:=λk ai hm=>by
 rcases Lk.1 hm with hm|hm
 .exact J k (aC h.le) hm
 .obtain⟨j,ae,aD,aU⟩:=h.all _ (yA l hm);have:=zj ab ab aU;omega
theorem Made.snoc{bC bJ:Nat}(h:Made G d V T L bC l){m:List ax}(hm:eM G d (V++decls l) (T++decls l) (.eH m))(aW:∀n∈(ak.eH m).all,∃k,bJ<=k/\k<bC/\n=ha k)
  (hn:(ak.eH m).num<=2*(bC - bJ)) (hle:bJ<=bC):Made G d V T L bJ (l++m):=by
 refine⟨tB.2 ⟨h.wf,hm⟩,λn hn=>?_,?_,Ls hle h.le⟩
 .rw[xJ] at hn;rcases Lk.1 hn with hn|hn
  .obtain⟨k,ae,aD,aU⟩:=h.all n hn;exact⟨k,ab,aD,aU⟩
  .obtain⟨k,ae,aD,aU⟩:=aW n hn;exact⟨k,ae,by have:=h.le;omega,aU⟩
 .rw[x7];have ae:=h.num;have aD:=h.le;omega
def dL(i:Nat):ByteArray:=⟨#[103,UInt8.ofNat (48+i)]⟩
def iC(i:Nat):ByteArray:=⟨#[UInt8.ofNat (97+i)]⟩
def jD(i:Nat):ByteArray:=if i=0 then iD else ⟨#[102,UInt8.ofNat (48+i)]⟩
def uB(i:Nat):ByteArray:=⟨#[112,UInt8.ofNat (48+i)]⟩
def eT:Nat->List ByteArray
 | 0=>[]
 | n+1=>uB (n+1)::eT n
def xb(ng nm nf:Nat):List ByteArray:=(List.range ng).map dL++(List.range nm).map iC++(List.range nf).map jD
def og:List ByteArray:=xb 2 4 4++eT 2
theorem qg:og.Nodup:=by
 have h:(og.map λs=>s.data.toList).Nodup:=by decide
 exact(List.pairwise_map.1 h).imp λa6 e=>a6 (by rw[e])
theorem sW:∀s∈og,bq s.data.toList=true:=by decide
theorem yI:mD og 26:=by
 have h:∀k:Fin 26,(ha k.val).data.toList∉og.map λs=>s.data.toList:=by decide
 intro k ai hm;exact h ⟨k,ai⟩ (Lz.2 ⟨_,hm,rfl⟩)
theorem wH{n:Nat}(h:n<=2):(eT n).Sublist (eT 2):=by
 obtain rfl|rfl|rfl:n=0\/n=1\/n=2:=ab
 .exact List.nil_sublist _
 .exact List.Sublist.cons _ (List.Sublist.refl _)
 .exact List.Sublist.refl _
theorem Er{ng nm nf n:Nat}(ae:ng<=2)(aD:nm<=4)(aU:nf<=4)(a1:n<=2):(xb ng nm nf++eT n).Sublist og:=by
 unfold og xb;refine List.Sublist.append (List.Sublist.append (List.Sublist.append ?_ ?_) ?_) (wH a1)
 .exact(List.range_sublist.2 ae).map _
 .exact(List.range_sublist.2 aD).map _
 .exact(List.range_sublist.2 aU).map _
theorem nF{α:Type}{f:α->ByteArray}{h:Nat->ByteArray}{l:List α}(hl:∀i x,l[i]?=some x->f x=h i):l.map f=(List.range l.length).map h:=by
 apply List.ext_getElem?
 intro i;rw[List.getElem?_map,List.getElem?_map];by_cases ak:i<l.length
 .have hx:l[i]?=some l[i]:=List.getElem?_eq_getElem ak;rw[hx,List.getElem?_range ak];simp[hl i _ hx]
 .rw[List.getElem?_eq_none ab,List.getElem?_eq_none (by simp;omega)];rfl
structure gv(p:bD):Prop where
 ng:p.globals.length<=2
 nm:1<=p.ae.length/\p.ae.length<=4
 nf:1<=p.funcs.length/\p.funcs.length<=4
 gs:∀i g,p.globals[i]?=some g->g.1=dL i∧-2<=g.2/\g.2<=2
 ms:∀i m,p.ae[i]?=some m->m.name=iC i/\0<=m.size/\m.size<=3/\(m.re=true->m.size=0)
 fs:∀i f,p.funcs[i]?=some f->f.name=jD i/\(∃n,n<=2/\f.params.map (·.1)=eT n)/\(i=0->f.params=[])
theorem gv.xb{p:bD}(h:gv p):ba p=xb p.globals.length p.ae.length p.funcs.length:=by
 unfold ba fF YtflecliffjbleaaGreat.xb;rw[nF λi x hx=>(h.gs i x hx).1,nF λi x hx=>(h.ms i x hx).1,nF λi x hx=>(h.fs i x hx).1]
theorem gv.sub(h:gv p)(J:f∈p.funcs):(ba p++f.params.map (·.1)).Sublist og:=by
 obtain⟨i,ak⟩:=List.getElem?_of_mem J;obtain⟨n,hn,hp⟩:=(h.fs i f ak).2.1;rw[h.xb,hp];exact Er h.ng h.nm.2 h.nf.2 hn
theorem mo:∀n,(eT n).length=n
 | 0=>rfl
 | n+1=>by simp[eT,mo n]
theorem gv.iT(h:gv p)(J:f∈p.funcs):f.params.length<=2:=by
 obtain⟨i,ak⟩:=List.getElem?_of_mem J;obtain⟨n,hn,hp⟩:=(h.fs i f ak).2.1;have:=congrArg List.length hp;rw[Lf,mo] at this;omega
theorem gv.free(h:gv p)(J:f∈p.funcs):mD (ba p++f.params.map (·.1)) 26:=λk ai hm=>yI k ai ((h.sub J).subset hm)
theorem gv.JS(h:gv p):∃f,p.funcs[0]?=some f/\f.name=iD/\f.params=[]:=by
 have:0<p.funcs.length:=h.nf.1;have hx:p.funcs[0]?=some p.funcs[0]:=List.getElem?_eq_getElem this;exact⟨_,hx,(h.fs 0 _ hx).1,(h.fs 0 _ hx).2.2 rfl⟩
theorem gv.env(h:gv p)(J:f∈p.funcs):nZ (fo p f):=by
 have ai:∀{f:aA},f∈p.funcs->∀s∈ba p++f.params.map (·.1),bq s.data.toList=true:=λJ s hs=>sW s ((h.sub J).subset hs);refine⟨λm hm=>ai J _ ?_,λq br=>ai J _ ?_,λg aK=>?_⟩
 .simp only[ba,Lk,Lz];exact .inl (.inl (.inr ⟨m,hm,rfl⟩))
 .simp only[Lk,Lz];exact .inr ⟨q,br,rfl⟩
 .obtain⟨k,co,rfl⟩:=Lz.1 aK;refine⟨ai co _ ?_,h.iT co⟩;simp only[ba,Lk,Lz];exact .inl (.inr ⟨k,co,rfl⟩)
theorem gv.vars(h:gv p)(J:f∈p.funcs):dE (fF p++cy f.params):=λs hs=>by
 refine sW s ((h.sub J).subset ?_);rcases Lk.1 hs with hs|hs
 .exact Lk.2 (.inl (by simp only[ba,Lk];exact .inl (.inl hs)))
 .obtain⟨q,br,rfl⟩:=Lz.1 hs;exact Lk.2 (.inr (Lz.2 ⟨q,(List.mem_filter.1 br).1,rfl⟩))
theorem gv.wf(h:gv p)(O:∀f∈p.funcs,eM (fo p f) 4 (fF p++cy f.params) (ba p++f.params.map (·.1)) f.body)(hn:(p.funcs.map λf=>f.body.num).sum<=64):oK p:=by
 obtain⟨f0,h0,b,a⟩:=h.JS;have bL:=Le h0;have hs:=h.sub bL;rw[a] at hs;simp only[Ly,LC] at hs;refine⟨λs hm=>sW s (hs.subset hm),hs.nodup qg,by have:=h.ng;omega,by have:=h.nm;omega,by have:=h.nf;omega,λg aK=>?_,λm hm=>?_,λf J=>?_,⟨0,f0,h0,b,a⟩,hn⟩
 .obtain⟨i,ak⟩:=List.getElem?_of_mem aK;have:=(h.gs i g ak).2;omega
 .obtain⟨i,ak⟩:=List.getElem?_of_mem hm;have:=(h.ms i m ak).2;exact⟨this.1,ab,this.2.2⟩
 .refine⟨(h.env J).params,h.iT J,(h.sub J).nodup qg,O f J⟩
theorem oU(g:ByteArray×Int):(ix g).sz=2:=rfl
theorem mP{g:ByteArray×Int}:(ix g).rep w P cs↔cs=[.string g.1,.int .i64 g.2]:=by
 unfold ix;rw[bB,ch];exact CR
theorem tY(g:ByteArray×Bool):(ct g).sz=2:=rfl
theorem rO{g:ByteArray×Bool}:(ct g).rep w P cs↔cs=[.string g.1,.bool g.2]:=by
 exact Gx
theorem pX(f:aA):(dr f).sz=3:=rfl
theorem kH(h:(dr f).rep w P cs):∃A n c B m d,cs=[.string f.name,.slice A n c,.slice B m d]/\Sl w P A n (f.params.map ct)/\Sl w P B m (cY f.body):=by
 unfold dr at h;rw[bB,ch] at h;obtain⟨y,rfl,h⟩:=h;obtain⟨A,n,c,br,rfl,_,ae,h⟩:=aF.1 h;obtain⟨B,m,d,aa,rfl,_,aD,h⟩:=aF.1 h;rw[aK] at h;subst h;exact⟨_,_,_,_,_,_,rfl,ae,aD⟩
theorem sT(m:bF):(ek m).sz=3:=rfl
theorem jd(n:Int):lW n=aU (hv n):=rfl
structure hh(w:World)(P:Nat->Prop)(p:bD)(GA:LP)(gn:Nat)(MA:LP)(mn:Nat)(FA:LP)(fn:Nat):Prop where
 g:Sl w P GA gn (p.globals.map ix)
 m:Sl w P MA mn (p.ae.map ek)
 f:Sl w P FA fn (p.funcs.map dr)
theorem o5(s:ByteArray):s.size=s.data.toList.length:=rfl
theorem wQ(l:List (ByteArray×Bool))(k:Nat):(g7 (l.take k)).length<=(g7 (l.take (k+1))).length:=by
 cases h:l[k]? with
 | none=>rw[Lj (i:=k+1) (by have:=List.getElem?_eq_none_iff.1 h;omega),Lj (List.getElem?_eq_none_iff.1 h)];exact Lb _
 | some a=>rw[qK h];simp
theorem qJ(l:List (ByteArray×Bool)):∀j k:Nat,(g7 (l.take k)).length<=(g7 (l.take (k+j))).length
 | 0,k=>Lb _
 | j+1,k=>Ls (qJ l j k) (wQ l (k+j))
theorem uE(l:List (ByteArray×Bool))(k:Nat):(g7 (l.take k)).length<=(g7 l).length:=by
 by_cases h:k<=l.length
 .have:=qJ l (l.length - k) k;rw[show k+(l.length - k)=l.length by omega,List.take_length] at this;exact this
 .rw[Lj ab];exact Lb _
structure xq(p:bD):Prop where
 inits:∀g∈p.globals,-9223372036854775808<=g.2/\g.2<=9223372036854775807
 gy:∀m∈p.ae,m.size<=9223372036854775807
 src:∀f∈p.funcs,nR f.body/\f.body.num<=900000/\f.params.length<=1000
 len:(aU (fA p)).length<=262144
 iT:p.globals.length<=1000/\p.ae.length<=1000/\p.funcs.length<=1000
theorem yR(b:ak)(h:nR b):hg b:=(JR wu b h).1
namespace Ci
theorem AK{p:Prop}(h:p:=by
 generalize M:strOf (GT++(av++fh km (p.funcs.take k)))=pre at *;have y:=ad M.symm;clear M;go_wp2;have S:(((pre++(⟨#[102,117,110,99,32]⟩:ByteArray))++f.name)++(⟨#[40]⟩:ByteArray)).size<=600000:=by
  have cN:(⟨#[102,117,110,99,32]⟩:ByteArray).size=5:=rfl;have e1:(⟨#[40]⟩:ByteArray).size=1:=rfl;simp only[ByteArray.size_append];omega
 generalize E:((pre++(⟨#[102,117,110,99,32]⟩:ByteArray))++f.name)++(⟨#[40]⟩:ByteArray)=aq at *;have ak:=ad E.symm;clear E a0 ap aj ba K;go_loopw [3,9] (λsv bt bh=>∃j:Nat,j<=pn/\bt=.int .i64 j/\sv=.string (aq++strOf (g7 (f.params.take j)))/\Ext w bh/\an bh w.heap.size 70 #[.slice GA gn gc,.slice MA mn mc,.slice (some ⟨b,o,none⟩) fn fc]/\Ext V bh) (λ_ bt _=>pn - (intOf bt).toNat)
 case atStart=>
  refine⟨0,ab,rfl,?_,bs.o,G.o,LL⟩;have:strOf (g7 (f.params.take 0))=⟨#[]⟩:=rfl;rw[this];congr 1
  rw[ByteArray.ext_iff];simp
 case round=>
  obtain⟨j,bd,rfl,rfl,aE,aN,hV⟩:=hrel;obtain⟨v,u,T⟩:=eG aE aN hV;obtain⟨a0,ap,aj⟩:=(bQ.aj hV).two;have aB:(strOf (g7 (f.params.take j))).size<=262144:=by
   rw[aH];exact Ls (uE f.params j) U.o
  by_cases Y:j<pn
  .obtain⟨pb,gN,q,cs,rfl,eM,X,b3,bi,Z⟩:=(gH.on (Fr.ext hV)).gZ tY Y;obtain rfl:=rO.1 b3;have c0:=Z 0 _ rfl;have c1:=Z 1 _ rfl;simp only[Ll] at c0;have N:pb<_:=eM;obtain⟨cg,qm⟩:=q;have eJ:=qK X;have Q:cg.size<=262144:=by
    have ae:=uE f.params (j+1);have aD:=U.o;rw[eJ] at ae;simp only[Ld] at ae;rw[o5];omega
   simp only at eJ c0 c1 Q;have ao:=ad eJ;clear aE aN hV bi Z X b3 eM eJ;by_cases h0:0<j
   .have q1:decide ((j:Int) > 0)=true:=by simp;omega
    cases qm
    all_goals
     go_wp2;go_roundw
     case rel=>
      refine⟨j+1,ab,by go_num,?_,v.o,u.o,T.o⟩;rw[ao.o,if_pos h0];congr 1
      simp only[show (⟨#[44,32]⟩:ByteArray)=strOf [44,32] from rfl,show (⟨#[109,117,116,101,120,32]⟩:ByteArray)=strOf [109,117,116,101,120,32] from rfl];exact zV
     case measure=>exact az
   .have q1:decide ((j:Int) > 0)=false:=by simp;omega
    cases qm
    all_goals
     go_wp2;go_roundw
     case rel=>
      refine⟨j+1,ab,by go_num,?_,v.o,u.o,T.o⟩;rw[ao.o,if_neg h0];congr 1
      try simp only[show (⟨#[109,117,116,101,120,32]⟩:ByteArray)=strOf [109,117,116,101,120,32] from rfl]
      exact zV
     case measure=>exact az
  .obtain rfl:pn=j:=ab;have ax:=ad (show g7 (f.params.take pn)=g7 f.params by rw[<-P.o,List.take_length]);rw[ax.o] at aB ⊢;clear aE aN hV Y;go_wp2_with(fail);refine((show hg f.body from am.1) 1 bT bn fk _ (aC am.2) (ds.on (Fr.ext T.o)) H.o).mono ?_;rintro e hW ⟨rfl,al⟩;have ez:=ad (v.trans al);have R:=ad (u.aj al);clear al a0 ap aj;go_wp2;go_roundw
   case rel=>
    refine⟨k+1,ab,by go_num,?_,ez.o,R.o⟩;obtain⟨ck,a4⟩:=i.o;rw[ak.o,y.o,ck,a4];congr 1
    simp only[show (⟨#[102,117,110,99,32]⟩:ByteArray)=strOf [102,117,110,99,32] from rfl,show (⟨#[40]⟩:ByteArray)=strOf [40] from rfl,show (⟨#[41,32,123,10]⟩:ByteArray)=strOf [41,32,123,10] from rfl,show (⟨#[125,10]⟩:ByteArray)=strOf [125,10] from rfl];conv=>lhs;rw[<-c9 f.name]
    simp only[af];simp
   case measure=>exact az
 ):p:=h
theorem vH{p:Prop}(h:p:=by
 have hlen:=hp.len;have cP:gn<=1000:=by have:=hp.iT;omega
 have cl:mn<=1000:=by have:=hp.iT;omega
 have dA:fn<=1000:=by have:=hp.iT;omega
 rw[sa] at hlen;simp only[Ld] at hlen;rw[sa];obtain⟨cb,cj,dL,b0⟩:=iR hp aK hm J;have bN:=aL dr lm lf;have F:=ad hlen;clear h aK hm J dr lm lf hlen hp;go_enter func110,ntmps110;go_wp2;generalize be:World.alloc _ _=W;have aE:=bb be;have aN:=aT be;clear be;obtain⟨a8,bx⟩:=aM aE aN;clear aE aN;go_loopw [3,4] (λsv bc wr=>∃k:Nat,k<=gn/\bc=.int .i64 k/\sv=.string (strOf (fh hJ (p.globals.take k)))/\Ext w wr/\an wr w.heap.size 70 #[.slice GA gn gc,.slice MA mn mc,.slice FA fn fc]) (λ_ bc _=>gn - (intOf bc).toNat)
 case atStart=>exact⟨0,ab,rfl,rfl,a8.o,bx.o⟩
 case round=>
  obtain⟨k,ai,rfl,rfl,aE,aN⟩:=hrel;clear a8 bx;obtain⟨a8,bx⟩:=aM aE aN;obtain⟨a0,ap,aj⟩:=aN.two;have ba:(strOf (fh hJ (p.globals.take k))).size<=262144:=by
   rw[aH];have ae:=k5 hJ p.globals k;have aD:=F.o;omega
  by_cases aw:k<gn
  .obtain⟨b,o,g,cs,rfl,O,r,I,bi,Z⟩:=(cj.on (Fr.ext aE)).gZ oU aw;obtain rfl:=mP.1 I;have c0:=Z 0 _ rfl;have c1:=Z 1 _ rfl;simp only[Ll] at c0;have aX:b<wr.heap.size:=O;obtain⟨nm,z⟩:=g;have aQ:=cb.inits _ (Le r);have ck:=nu (f:=hJ) r;have a4:=Dw (nm,z);have hle:=k5 hJ p.globals (k+1);have l:(fh hJ (p.globals.take (k+1))).length<=262144:=by have:=F.o;omega
   rw[ck,a4] at l;simp only[Ld] at l;have K:nm.size<=262144:=by rw[o5];omega
   simp only at aQ a4 c0 c1 K;by_cases h0:z=0
   .subst h0;have ag:=ad (show ((strOf (fh hJ (p.globals.take k))++(⟨#[118,97,114,32]⟩:ByteArray))++nm)++(⟨#[59,10]⟩:ByteArray)=strOf (fh hJ (p.globals.take (k+1))) by
     rw[ck,a4,show (⟨#[118,97,114,32]⟩:ByteArray)=strOf [118,97,114,32] from rfl,show (⟨#[59,10]⟩:ByteArray)=strOf [59,10] from rfl];conv=>lhs;rw[<-c9 nm]
     rw[af,af,af];simp)
    clear aE aN r I bi Z ck a4 hle l aQ O;go_wp2;go_roundw
    case rel=>exact⟨k+1,ab,by go_num,by rw[<-ag.o],a8.o,bx.o⟩
    case measure=>exact az
   .have q1:(z != 0)=true:=by simpa using h0
    have cp:(z == 0)=false:=by simpa using h0
    rw[if_neg h0] at a4 l;simp only[Ld] at l;have s:(strOf (lW z)).size<=262144:=by rw[aH,jd];omega
    have ag:=ad (show ((((strOf (fh hJ (p.globals.take k))++(⟨#[118,97,114,32]⟩:ByteArray))++nm)++(⟨#[32,61,32]⟩:ByteArray))++strOf (lW z))++(⟨#[59,10]⟩:ByteArray)=strOf (fh hJ (p.globals.take (k+1))) by
     rw[ck,a4,show (⟨#[118,97,114,32]⟩:ByteArray)=strOf [118,97,114,32] from rfl,show (⟨#[59,10]⟩:ByteArray)=strOf [59,10] from rfl,show (⟨#[32,61,32]⟩:ByteArray)=strOf [32,61,32] from rfl,jd];conv=>lhs;rw[<-c9 nm]
     rw[af,af,af,af,af];simp)
    clear aE aN r I bi Z ck a4 hle l O h0;go_wp2_with(fail);refine(ml z _ aQ).mono ?_;rintro e aP ⟨rfl,ar⟩;have bs:=ad (a8.trans (Fr.of ar));have G:=ad (bx.aj (Fr.of ar));clear ar a0 ap aj c0 c1;go_wp2;go_roundw
    case rel=>exact⟨k+1,ab,by go_num,by rw[<-ag.o],bs.o,G.o⟩
    case measure=>exact az
  .obtain rfl:gn=k:=ab;have n:=ad (show fh hJ (p.globals.take gn)=fh hJ p.globals by rw[<-bN.1,List.take_length]);rw[n.o] at ba ⊢;clear aE aN;generalize ay:fh hJ p.globals=GT at *;go_wp2;clear a0 ap aj n;go_loopw [3,5] (λsv bc wr=>∃k:Nat,k<=mn/\bc=.int .i64 k/\sv=.string (strOf (GT++fh kn (p.ae.take k)))/\Ext w wr/\an wr w.heap.size 70 #[.slice GA gn gc,.slice MA mn mc,.slice FA fn fc]) (λ_ bc _=>mn - (intOf bc).toNat)
   case atStart=>exact⟨0,ab,rfl,by simp[fh],a8.o,bx.o⟩
   case round=>
    obtain⟨k,ai,rfl,rfl,aE,aN⟩:=hrel;clear a8 bx ba;obtain⟨a8,bx⟩:=aM aE aN;obtain⟨a0,ap,aj⟩:=aN.two;have ba:(strOf (GT++fh kn (p.ae.take k))).size<=262144:=by
     rw[aH,Ld];have ae:=k5 kn p.ae k;have aD:=F.o;omega
    by_cases dp:k<mn
    .obtain⟨b,o,m,cs,rfl,O,r,I,bi,Z⟩:=(dL.on (Fr.ext aE)).gZ sT dp;obtain rfl:=e4.1 I;have c0:=Z 0 _ rfl;have c1:=Z 1 _ rfl;have c2:=Z 2 _ rfl;simp only[Ll] at c0;have aX:b<wr.heap.size:=O;obtain⟨nm,re,z⟩:=m;have aQ:=cb.gy _ (Le r);have ck:=nu (f:=kn) r;have a4:=DL ⟨nm,re,z⟩;have hle:=k5 kn p.ae (k+1);have l:GT.length+(fh kn (p.ae.take (k+1))).length<=262144:=by have:=F.o;omega
     rw[ck,a4] at l;simp only[Ld] at l;have K:nm.size<=262144:=by rw[o5];omega
     simp only at aQ a4 c0 c1 c2 K;have s:0<z->(strOf (lW z)).size<=262144:=λh0=>by
      rw[if_pos h0] at l;simp only[Ld] at l;rw[aH,jd];omega
     clear bi Z hle l r I O aE aN;have aa:=ad ck;go_upto_region 13 with(fail);generalize hV:World.alloc _ _=V;have L:=bb hV;have bs:=ad (a8.trans L);have G:=ad (bx.aj L);have hC:=aT hV;clear hV a0 ap aj c0 c1 c2 aX a8 bx L ck;obtain⟨a0,ap,aj⟩:=hC.two;clear hC;cases re
     all_goals
      by_cases h0:0<z
      .rw[if_pos h0] at a4;have bm:=s h0;have q1:decide (z > 0)=true:=by simpa using h0
       have cS:-9223372036854775808<=z/\z<=9223372036854775807:=ab;have i:=ad a4;clear a4 h0 s;go_wp2_with(fail);refine(ml z _ cS).mono ?_;rintro e aP ⟨rfl,ar⟩;have a7:=ad (bs.trans (Fr.of ar));have b8:=ad (G.aj (Fr.of ar));clear ar a0 ap aj;go_wp2;go_roundw
       case rel=>
        refine⟨k+1,ab,by go_num,?_,a7.o,b8.o⟩;rw[aa.o,i.o,<-jd];congr 1
        simp only[show (⟨#[114]⟩:ByteArray)=strOf [114] from rfl,show (⟨#[109,117,116,101,120,32]⟩:ByteArray)=strOf [109,117,116,101,120,32] from rfl,show (⟨#[91]⟩:ByteArray)=strOf [91] from rfl,show (⟨#[93]⟩:ByteArray)=strOf [93] from rfl,show (⟨#[59,10]⟩:ByteArray)=strOf [59,10] from rfl];conv=>lhs;rw[<-c9 nm]
        simp only[af];simp
       case measure=>exact az
      .rw[if_neg h0] at a4;have q1:decide (z > 0)=false:=by simp;omega
       have i:=ad a4;clear a4 h0 s aQ;go_wp2;go_roundw
       case rel=>
        refine⟨k+1,ab,by go_num,?_,bs.o,G.o⟩;rw[aa.o,i.o];congr 1
        simp only[show (⟨#[114]⟩:ByteArray)=strOf [114] from rfl,show (⟨#[109,117,116,101,120,32]⟩:ByteArray)=strOf [109,117,116,101,120,32] from rfl,show (⟨#[59,10]⟩:ByteArray)=strOf [59,10] from rfl];conv=>lhs;rw[<-c9 nm]
        simp only[af];simp
       case measure=>exact az
    .obtain rfl:mn=k:=ab;have n:=ad (show fh kn (p.ae.take mn)=fh kn p.ae by rw[<-bN.2.1,List.take_length]);rw[n.o] at ba ⊢;clear aE aN;generalize aA:fh kn p.ae=av at *;go_wp2;clear a0 ap aj n;go_loopw [3,7] (λsv bc wr=>∃k:Nat,k<=fn/\bc=.int .i64 k/\sv=.string (strOf (GT++(av++fh km (p.funcs.take k))))/\Ext w wr/\an wr w.heap.size 70 #[.slice GA gn gc,.slice MA mn mc,.slice FA fn fc]) (λ_ bc _=>fn - (intOf bc).toNat)
     case atStart=>exact⟨0,ab,rfl,by simp[fh],a8.o,bx.o⟩
     case round=>
      obtain⟨k,ai,rfl,rfl,aE,aN⟩:=hrel;clear a8 bx ba;obtain⟨a8,bx⟩:=aM aE aN;obtain⟨a0,ap,aj⟩:=aN.two;have ba:(strOf (GT++(av++fh km (p.funcs.take k)))).size<=262144:=by
       rw[aH,Ld,Ld];have ae:=k5 km p.funcs k;have aD:=F.o;omega
      by_cases bC:k<fn
      .obtain⟨b,o,f,cs,rfl,O,r,I,bi,Z⟩:=(b0.on (Fr.ext aE)).gZ pX bC;obtain⟨PA,pn,pc,bT,bn,fk,rfl,cq,bE⟩:=kH I;have c0:=Z 0 _ rfl;have c1:=Z 1 _ rfl;have c2:=Z 2 _ rfl;simp only[Ll] at c0;have aX:b<wr.heap.size:=O;have aQ:=cb.src _ (Le r);have ck:=nu (f:=km) r;have a4:=Dk f;have hle:=k5 km p.funcs (k+1);have l:GT.length+(av.length+(fh km (p.funcs.take (k+1))).length)<=262144:=by have:=F.o;omega
       rw[ck,a4] at l;simp only[Ld] at l;have K:f.name.size<=262144:=by rw[o5];omega
       have bP:(g7 f.params).length<=262144:=ab;have bg:(cA 1 f.body).length<=262144:=ab;have bf:f.params.length=pn:=by rw[<-cq.1,Lf]
       have gI:pn<=1000:=ab;obtain⟨U,H,P⟩:=eG bP bg bf;have am:=ah (yR f.body aQ.1) aQ.2.1;have aF:(strOf (cA 1 f.body)).size<=262144:=by rw[aH];exact bg
       have i:=ah ck a4;clear bi Z hle l r I O aE aN ck a4 aQ bP bg bf;go_upto_region 23 with(fail);exact AJ
      .obtain rfl:fn=k:=ab;have n:=ad (show fh km (p.funcs.take fn)=fh km p.funcs by rw[<-bN.2.2,List.take_length]);rw[n.o];clear aE aN;go_wp2;go_ret;exact⟨ret_str (by rw[<-ay,<-aA]),a8.o⟩
 ):p:=h
end Ci
open Ci in
theorem uD(p:bD)(hp:xq p)(GA:LP)(gn gc:Nat)(MA:LP)(mn mc:Nat)(FA:LP)(fn fc:Nat)(w:World)(h:hh w (au w) p GA gn MA mn FA fn) :
  Calls prog 110 #[.agg #[.slice GA gn gc,.slice MA mn mc,.slice FA fn fc]] w λe ac=>e=.returned (.string (strOf (aU (fA p))))/\Ext w ac:=by
 exact vG
theorem Fh{l:List UInt8}(h:(dH l).2.2=0):l.length<=262144:=by
 unfold dH at h;split at h
 .simp at h
 .omega
theorem oK.print(hp:oK p):xq p where
 inits:=λg aK=>by have:=hp.inits g aK;omega
 gy:=λm hm=>by have:=hp.gy m hm;omega
 src:=λf J=>⟨jm _ 4 (kr (hp.env J) f.body 4 _ _ (hp.vars J) (hp.funcs f J).body),by
  have ae:f.body.num<=(p.funcs.map λf=>f.body.num).sum:=jo (λf:aA=>f.body.num) J;have:=hp.iT;omega,by have:=(hp.funcs f J).iT;omega⟩
 len:=Fh (uC hp)
 iT:=by
  have:=hp.qv;have:=hp.yY;have:=hp.Fl;omega
theorem FW(w:World)(s:ByteArray)(cap:Nat)(hc:s.size<=cap)(hs:s.size<=1000000)(e:TypeId)(sp:Nat×Nat):fb (w.alloc (.cells (bytesRow s cap) e sp)) w.heap.size 0 cap s:=by
 refine⟨λi ak=>?_,by simp,hc,hs⟩;rw[Lt,cell_of_row _ _ i _ e sp (heap_alloc_new w _)];unfold bytesRow;rw[Array.getElem?_append_left (by simpa using ak)];simp only[Array.getElem?_map];rw[Array.getElem?_eq_getElem (by simpa using ak)];rfl
namespace Cp
theorem AK{p:Prop}(h:p:=by
 go_wp2_with(fail);refine(g1 f.name _ U).mono ?_;rintro e aP ⟨rfl,ar⟩;rw[i.o];have a7:=ad (bs.trans ar);have b8:=ad (G.aj ar);have ax:=ad (bQ.aj ar);have l:=ad ar;clear ar a0 ap aj;obtain⟨a0,ap,aj⟩:=ax.two;go_wp2_with(fail);refine((show F7 f.body from uA f.body) 4 0 _ _ _ _ af.o (aC fE.o) ab (ds.on (Fr.ext l.o))).mono ?_;rintro e aV ⟨rfl,bU⟩;have bX:=ad (a7.trans bU);have b6:=ad (b8.aj bU);have M:=ad (ax.aj bU);have al:=ad (l.trans bU);clear bU a0 ap aj;obtain⟨a0,ap,aj⟩:=M.two;go_wp2;clear a0 ap aj;go_loopw [8] (λbt bh=>∃j:Nat,j<=pn/\bt=.int .i64 j/\Ext w bh/\an bh w.heap.size 70 #[.slice GA gn gc,.slice MA mn mc,.slice (some ⟨b,o,none⟩) fn fc]/\Ext V bh) (λbt _=>pn - (intOf bt).toNat)
 case atStart=>exact⟨0,ab,rfl,bX.o,b6.o,al.o⟩
 case round=>
  obtain⟨j,bd,rfl,aE,aN,hV⟩:=hrel;obtain⟨v,u,T⟩:=eG aE aN hV;obtain⟨a0,ap,aj⟩:=(bQ.aj hV).two;by_cases Y:j<pn
  .obtain⟨pb,gN,q,cs,rfl,eM,X,b3,bi,Z⟩:=(gH.on (Fr.ext hV)).gZ tY Y;obtain rfl:=rO.1 b3;have c0:=Z 0 _ rfl;have c1:=Z 1 _ rfl;simp only[Ll] at c0;have N:pb<_:=eM;have Q:=ah.params _ (Le X);obtain⟨cg,qm⟩:=q;simp only at Q c0 c1;have ag:=ad (show jH cg=true from Q);have aq:=h8 Q;clear aE aN hV bi Z X b3 eM Q;go_wp2_with(fail);refine(g1 cg _ aq).mono ?_;rintro e cz ⟨rfl,dm⟩;rw[ag.o];have F:=ad (v.trans dm);have av:=ad (u.aj dm);have am:=ad (T.trans dm);clear dm a0 ap aj c0 c1 N;go_wp2;go_roundw
   case rel=>exact⟨j+1,ab,by go_num,F.o,av.o,am.o⟩
   case measure=>exact az
  .obtain rfl:pn=j:=ab;clear aE aN hV Y;go_wp2;go_roundw
   case rel=>exact⟨k+1,ab,by go_num,v.o,u.o⟩
   case measure=>exact az
 ):p:=h
theorem sI{p:Prop}(h:p:=by
 obtain⟨cb,cj,dL,b0,H⟩:=CO hp aK hm J hp.names;clear h aK hm J dr lm lf hp;go_enter func68,ntmps68;go_upto_region 1 with(fail);generalize be:World.alloc _ _=W;have aE:=bb be;have aN:=aT be;clear be;obtain⟨a8,bx⟩:=aM aE aN;obtain⟨a0,ap,aj⟩:=aN.two;clear aE aN;go_wp2;clear a0 ap aj;go_loopw [3] (λbc wr=>∃k:Nat,k<=gn/\bc=.int .i64 k/\Ext w wr/\an wr w.heap.size 70 #[.slice GA gn gc,.slice MA mn mc,.slice FA fn fc]) (λbc _=>gn - (intOf bc).toNat)
 case atStart=>exact⟨0,ab,rfl,a8.o,bx.o⟩
 case round=>
  obtain⟨k,ai,rfl,aE,aN⟩:=hrel;clear a8 bx;obtain⟨a8,bx⟩:=aM aE aN;obtain⟨a0,ap,aj⟩:=aN.two;by_cases aw:k<gn
  .obtain⟨b,o,g,cs,rfl,O,r,I,bi,Z⟩:=(cj.on (Fr.ext aE)).gZ oU aw;obtain rfl:=mP.1 I;have c0:=Z 0 _ rfl;have c1:=Z 1 _ rfl;simp only[Ll] at c0;have aX:b<_:=O;obtain⟨nm,z⟩:=g;have aQ:=cb.inits _ (Le r);have R:bq nm.data.toList=true:=H.o nm (by simp only[ba,fF,Lk,Lz];exact .inl (.inl ⟨_,Le r,rfl⟩));have i:=ad (show jH nm=true from R);have U:=h8 R;simp only at aQ c0 c1;have bR:(z == -9223372036854775808)=false:=by simp;omega
   clear aE aN r I bi Z O R;go_wp2_with(fail);refine(g1 nm _ U).mono ?_;rintro e aP ⟨rfl,ar⟩;rw[i.o];have bs:=ad (a8.trans ar);have G:=ad (bx.aj ar);have f1:=(ar.cell (j:=o+k*2+1) aX (λh=>h)).trans c1;have bL:b<aP.heap.size:=Lc aX ar.size;clear ar a0 ap aj c0 c1 aX;obtain⟨a0,ap,aj⟩:=G.two;go_wp2;go_roundw
   case rel=>exact⟨k+1,ab,by go_num,bs.o,G.o⟩
   case measure=>exact az
  .obtain rfl:gn=k:=ab;clear aE aN;go_wp2;clear a0 ap aj;go_loopw [4] (λbc wr=>∃k:Nat,k<=mn/\bc=.int .i64 k/\Ext w wr/\an wr w.heap.size 70 #[.slice GA gn gc,.slice MA mn mc,.slice FA fn fc]) (λbc _=>mn - (intOf bc).toNat)
   case atStart=>exact⟨0,ab,rfl,a8.o,bx.o⟩
   case round=>
    obtain⟨k,ai,rfl,aE,aN⟩:=hrel;clear a8 bx;obtain⟨a8,bx⟩:=aM aE aN;obtain⟨a0,ap,aj⟩:=aN.two;by_cases dp:k<mn
    .obtain⟨b,o,m,cs,rfl,O,r,I,bi,Z⟩:=(dL.on (Fr.ext aE)).gZ sT dp;obtain rfl:=e4.1 I;have c0:=Z 0 _ rfl;have c1:=Z 1 _ rfl;have c2:=Z 2 _ rfl;simp only[Ll] at c0;have aX:b<_:=O;obtain⟨nm,re,z⟩:=m;have aQ:=cb.gy _ (Le r);have R:bq nm.data.toList=true:=H.o nm (by simp only[ba,Lk,Lz];exact .inl (.inr ⟨_,Le r,rfl⟩));have i:=ad (show jH nm=true from R);have U:=h8 R;simp only at aQ c0 c1 c2;have q1:decide (z<0)=false:=by simp;omega
     have cp:decide (z > 64)=false:=by simp;omega
     clear bi Z r I O aE aN R;go_upto_region 12 with(fail);generalize hV:World.alloc _ _=V;have L:=bb hV;have bs:=ad (a8.trans L);have G:=ad (bx.aj L);have hC:=aT hV;have bQ:=ad hC;clear hV a0 ap aj c0 c1 c2 aX a8 bx L;obtain⟨a0,ap,aj⟩:=hC.two;clear hC;go_wp2_with(fail);refine(g1 nm _ U).mono ?_;rintro e aP ⟨rfl,ar⟩;rw[i.o];have a7:=ad (bs.trans ar);have b8:=ad (G.aj ar);have ak:=bQ.aj ar;clear ar a0 ap aj;obtain⟨a0,ap,aj⟩:=ak.two;clear ak
     cases re with
     | false=>
      exact Gt
     | true=>
      obtain rfl:z=0:=aQ.2.2 rfl;exact Gt
    .obtain rfl:mn=k:=ab;clear aE aN;go_wp2;clear a0 ap aj;go_loopw [6] (λbc wr=>∃k:Nat,k<=fn/\bc=.int .i64 k/\Ext w wr/\an wr w.heap.size 70 #[.slice GA gn gc,.slice MA mn mc,.slice FA fn fc]) (λbc _=>fn - (intOf bc).toNat)
     case atStart=>exact⟨0,ab,rfl,a8.o,bx.o⟩
     case round=>
      obtain⟨k,ai,rfl,aE,aN⟩:=hrel;clear a8 bx;obtain⟨a8,bx⟩:=aM aE aN;obtain⟨a0,ap,aj⟩:=aN.two;by_cases bC:k<fn
      .obtain⟨b,o,f,cs,rfl,O,r,I,bi,Z⟩:=(b0.on (Fr.ext aE)).gZ pX bC;obtain⟨PA,pn,pc,bT,bn,fk,rfl,cq,bE⟩:=kH I;have c0:=Z 0 _ rfl;have c1:=Z 1 _ rfl;have c2:=Z 2 _ rfl;simp only[Ll] at c0;have aX:b<_:=O;have bj:=Le r;have R:bq f.name.data.toList=true:=H.o f.name (by simp only[ba,Lk,Lz];exact .inr ⟨_,bj,rfl⟩);have i:=ad (show jH f.name=true from R);have U:=h8 R;have bf:f.params.length=pn:=by rw[<-cq.1,Lf]
       have gI:pn<=2:=by have:=(cb.funcs f bj).iT;omega
       have ah:=ad (cb.funcs f bj);have af:=ad (kr (cb.env bj) f.body 4 _ _ (cb.vars bj) (cb.funcs f bj).body);have fE:=ad (cb.print.src f bj).2.1;clear bi Z r I O aE aN R bf bj;go_upto_region 18 with(fail);exact AJ
      .obtain rfl:fn=k:=ab;have s:=ad (show hh _ (au _) p GA gn MA mn FA fn from ⟨cj.on (Fr.ext aE),dL.on (Fr.ext aE),b0.on (Fr.ext aE)⟩);clear aE aN;go_wp2_with(fail);refine(uD p cb.print GA gn gc MA mn mc FA fn fc _ s.o).mono ?_;rintro e b5 ⟨rfl,a6⟩;have F:=ad (a8.trans a6);have kc:=run_bytes_of_string (P:=prog) b5 9 78 5 (strOf (aU (fA p))) Tryz.underlying9 Tryz.underlying78 Tryz.underlying5;have hlen:(strOf (aU (fA p))).size<=262144:=by rw[aH];exact cb.print.len
       have y:=ad (uC cb.o);have ao:(strOf (aU (fA p))).data.toList=aU (fA p):=by simp[strOf]
       generalize hS:strOf (aU (fA p))=S at *;have bo:=grownCap_ge b5 S.size 0 5;generalize K:grownCap b5 S.size 0 5=cap at *;clear a6 a0 ap aj K;go_wp2_with(fail);generalize hV:World.alloc _ _=V;have hT:fb V b5.heap.size 0 cap S:=by
        rw[<-hV];exact FW b5 S cap bo ab _ _
       have L:=bb hV;have aG:=ad (F.trans L);clear hV L kc;refine(x0 S b5.heap.size 0 cap V.drew (hT.on LL.drew) hlen).mono ?_;rintro e cx ⟨A,n,c,rfl,aI,bZ,aa⟩;have ae:=ad (aG.drew.trans (Fr.of aa));rw[show (dH S.data.toList).2.2=0 by rw[ao];exact y.o];clear bZ aa hT;go_wp2;go_ret;exact⟨rfl,ae.o⟩
 ):p:=h
theorem vH{p:Prop}(h:p:=by
 exact sH
 ):p:=h
end Cp
open Cp in
theorem FY(p:bD)(hp:oK p)(GA:LP)(gn gc:Nat)(MA:LP)(mn mc:Nat)(FA:LP)(fn fc:Nat)(w:World)(h:hh w (au w) p GA gn MA mn FA fn) :
  Calls prog 68 #[.agg #[.slice GA gn gc,.slice MA mn mc,.slice FA fn fc]] w λe ac=>e=.returned (.bool true)/\Ext w ac:=by
 exact vG
end Go.Proofs.YtflecliffjbleaaGreat

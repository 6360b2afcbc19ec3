/- Part 14 of the proof. No condition of its own. -/
import Derived.Test.YtkhnkojkplbioaaGreatQ08
import Derived.Test.YtkhnkojkplbioaaGreatQ13
namespace Go.Proofs.YtkhnkojkplbioaaGreat
open Go.RowKit Go.Proofs.Tryz
set_option maxRecDepth 1000000
set_option maxHeartbeats 25600000
set_option linter.unusedVariables false
variable{n:ByteArray}{G:Env}{T V:L4}{cs:List Value}{l:List aA}{L d k:Nat}{P:Nat->Prop}{w:World}{s:aA}{f:aK}{p:bP}
def an.eQ:List aA->an
 | []=>.nil
 | .set v n e::l=>.set v n e (eQ l)
 | .call g n aV::l=>.call g n aV (eQ l)
 | .lock u r::l=>.lock u r (eQ l)
 | .ite e th el::l=>.ite e th el (eQ l)
 | .gz e th::l=>.gz e th (eQ l)
 | .ret::l=>.ret (eQ l)
theorem uR:∀l:List aA,(an.eQ l).list=l
 | []=>rfl
 | s::l=>by cases s<;>simp only[an.eQ,an.list,uR l]
theorem mH(l:List aA):c6 (.eQ l)=l.map bj:=by rw[cG,uR]
def aA.decl:aA->List ByteArray
 | .set true n _=>[n]
 | _=>[]
def decls(l:List aA):List ByteArray:=l.flatMap aA.decl
theorem rP(l m:List aA):decls (l++m)=decls l++decls m:=List.flatMap_append
def an.all:an->List ByteArray
 | .nil=>[]
 | .set true n _ rest=>n::rest.all
 | .set false _ _ rest=>rest.all
 | .call _ _ _ rest=>rest.all
 | .lock _ _ rest=>rest.all
 | .ite _ th el rest=>th.all++el.all++rest.all
 | .gz _ th rest=>th.all++rest.all
 | .ret rest=>rest.all
def aA.all:aA->List ByteArray
 | .set true n _=>[n]
 | .ite _ th el=>th.all++el.all
 | .gz _ th=>th.all
 | _=>[]
theorem all_cons(s:aA)(l:List aA):(an.eQ (s::l)).all=s.all++(an.eQ l).all:=by
 cases s with
 | set v n e=>cases v<;>rfl
 | ite e th el=>simp[an.eQ,an.all,aA.all]
 | gz e th=>simp[an.eQ,an.all,aA.all]
 | call g n aV=>rfl
 | lock u r=>rfl
 | ret=>rfl
theorem xW(l m:List aA):(an.eQ (l++m)).all=(an.eQ l).all++(an.eQ m).all:=by
 induction l with
 | nil=>rfl
 | cons s l ao=>rw[Lz,all_cons,all_cons,ao,Ly]
theorem D4(s:aA)(h:n∈s.decl):n∈s.all:=by
 cases s with
 | set v n e=>cases v<;>simp_all [aA.decl,aA.all]
 | _=>simp[aA.decl] at h
theorem yK(l:List aA)(h:n∈decls l):n∈(an.eQ l).all:=by
 induction l with
 | nil=>simp[decls] at h
 | cons s l ao=>
  rw[all_cons];unfold decls at h;rw[LH] at h;rcases Lt.1 h with h|h
  .exact Lt.2 (.inl (D4 s h))
  .exact Lt.2 (.inr (ao h))
def aA.num:aA->Nat
 | .ite _ th el=>th.num+el.num+1
 | .gz _ th=>th.num+1
 | _=>1
theorem kL(s:aA)(l:List aA):(an.eQ (s::l)).num=s.num+(an.eQ l).num:=by
 cases s<;>simp only[an.eQ,an.num,aA.num]<;>omega
theorem yk(l m:List aA):(an.eQ (l++m)).num=(an.eQ l).num+(an.eQ m).num:=by
 induction l with
 | nil=>simp[an.eQ,an.num]
 | cons s l ao=>rw[Lz,kL,kL,ao,Nat.add_assoc]
theorem tw(s:aA):(an.eQ [s]).num=s.num:=by rw[kL];simp[an.eQ,an.num]
theorem uJ(l:List aA):l.length<=(an.eQ l).num:=by
 induction l with
 | nil=>simp
 | cons s l ao=>
  rw[kL];have:1<=s.num:=by cases s<;>simp[aA.num]
  simp;omega
def Gz(G:Env)(d:Nat)(V T:L4):aA->Prop
 | .set true n e=>bH n.data.toList=true/\n∉T/\e.src V 2
 | .set false n e=>n∈V/\e.src V 2
 | .call _ n aV=>∃ps,(n,ps)∈G.funcs/\iR G V ps aV
 | .lock _ r=>su G V r
 | .ite e th el=>∃k,d=k+1/\e.src V 2/\e6 G k V T th/\e6 G k V T el
 | .gz e th=>∃k,d=k+1/\e.src V 2/\e6 G k V T th
 | .ret=>True
theorem np:e6 G d V T .nil:=by cases d<;>trivial
theorem nn:e6 G d V T (.eQ (s::l))↔Gz G d V T s/\e6 G d (V++s.decl) (T++s.decl) (.eQ l):=by
 cases s with
 | set v n e=>
  cases v
  .simp only[an.eQ,aA.decl,Gz,LM];cases d<;>exact⟨λh=>⟨⟨h.1,h.2.1⟩,h.2.2⟩,λh=>⟨h.1.1,h.1.2,h.2⟩⟩
  .simp only[an.eQ,aA.decl,Gz]
   cases d<;>exact⟨λh=>⟨⟨h.1,h.2.1,h.2.2.1⟩,h.2.2.2⟩,λh=>⟨h.1.1,h.1.2.1,h.1.2.2,h.2⟩⟩
 | call g n aV=>
  exact Ah
 | lock u r=>
  exact Ah
 | ite e th el=>
  simp only[an.eQ,aA.decl,Gz,LM]
  cases d with
  | zero=>exact⟨λh=>h.elim,λ⟨⟨k,h,_⟩,_⟩=>ad⟩
  | succ d=>exact⟨λh=>⟨⟨d,rfl,h.1,h.2.1,h.2.2.1⟩,h.2.2.2⟩,λ⟨⟨k,h,ac,au,aY⟩,bR⟩=>by
    obtain rfl:d=k:=ad
    exact⟨ac,au,aY,bR⟩⟩
 | gz e th=>
  simp only[an.eQ,aA.decl,Gz,LM]
  cases d with
  | zero=>exact⟨λh=>h.elim,λ⟨⟨k,h,_⟩,_⟩=>ad⟩
  | succ d=>exact⟨λh=>⟨⟨d,rfl,h.1,h.2.1⟩,h.2.2⟩,λ⟨⟨k,h,ac,au⟩,bR⟩=>by
    obtain rfl:d=k:=ad
    exact⟨ac,au,bR⟩⟩
 | ret=>
  simp only[an.eQ,aA.decl,Gz,LM,true_and];cases d<;>exact Iff.rfl
theorem tQ{G:Env}{d:Nat}:∀{V T:L4} {l m:List aA},e6 G d V T (.eQ (l++m))↔e6 G d V T (.eQ l)/\e6 G d (V++decls l) (T++decls l) (.eQ m)
 | V,T,[],m=>by simp[decls,an.eQ,np]
 | V,T,s::l,m=>by
  have ao:=tQ (G:=G) (d:=d) (V:=V++s.decl) (T:=T++s.decl) (l:=l) (m:=m);rw[Lz,nn,nn,ao];simp only[decls,LH,Ly];exact and_assoc.symm
theorem tR:e6 G d V T (.eQ [s])↔Gz G d V T s:=by
 rw[nn];exact⟨λh=>h.1,λh=>⟨h,np⟩⟩
theorem dN{V aY:L4}(h:V ⊆ aY):∀(d:Nat) (x:VE),x.src V d->x.src aY d
 | d,.num _,hx=>by cases d<;>exact hx
 | d,.g7 s,hx=>by
  have g:s∈V:=by cases d<;>exact hx
  have:=h g
  cases d<;>exact this
 | d,.loc _,hx=>by cases d<;>exact hx.elim
 | d,.iF _,hx=>by cases d<;>exact hx.elim
 | 0,.un _ _,hx=>hx.elim
 | 0,.bin _ _ _,hx=>hx.elim
 | d+1,.un _ x,hx=>⟨hx.1,dN h d x hx.2⟩
 | d+1,.bin _ x y,hx=>⟨hx.1,dN h d x hx.2.1,dN h d y hx.2.2⟩
theorem kT{aY:L4}(h:V ⊆ aY){r:eS}(ba:su G V r):su G aY r:=by
 rcases ba with⟨m,hm,hn,ac,au⟩|hp
 .exact .inl ⟨m,hm,hn,λhs=>by obtain⟨e,he,ay⟩:=ac hs;exact⟨e,he,dN h 2 e ay⟩,au⟩
 .exact .inr hp
theorem nX{G:Env}{V aY:L4}(h:V ⊆ aY):∀(ps:List (ByteArray×Bool)) (aV:List ds),iR G V ps aV->iR G aY ps aV
 | [],[],_=>trivial
 | p::ps,a::aV,bz=>by
  refine⟨?_,nX h ps aV bz.2⟩
  cases a with
  | mx r=>exact⟨bz.1.1,kT h bz.1.2⟩
  | ex e=>exact⟨bz.1.1,dN h 2 e bz.1.2⟩
 | [],_::_,bz=>bz.elim
 | _::_,[],bz=>bz.elim
theorem Fa{aY:L4}(h:V ⊆ aY)(m:L4):V++m ⊆ aY++m:=λx hx=>by
 rcases Lt.1 hx with hx|hx
 .exact Lt.2 (.inl (h hx))
 .exact Lt.2 (.inr hx)
theorem we{A aw:L4}(h:∀x∈A,x∈aw->x∈T):∀x∈A,x∈aw++[n]->x∈T++[n]:=λx hx hm=>by
 rcases Lt.1 hm with hm|hm
 .exact Lt.2 (.inl (h x hx hm))
 .exact Lt.2 (.inr hm)
theorem dg{G:Env}:∀(b:an) (d a:Nat) (V aY T aw:L4),V ⊆ aY->(∀n∈b.all,n∈aw->n∈T)->d<=a->e6 G d V T b->e6 G a aY aw b
 | .nil,d,a,V,aY,T,aw,hV,hT,hd,h=>np
 | .set true n e rest,d,a,V,aY,T,aw,hV,hT,hd,h=>by
  have F:bH n.data.toList=true/\n∉T/\e.src V 2/\e6 G d (V++[n]) (T++[n]) rest:=by cases d<;>exact h
  have ao:=dg rest d a (V++[n]) (aY++[n]) (T++[n]) (aw++[n]) (Fa hV _) (we λx hx=>hT x (by simp[an.all,hx])) hd F.2.2.2;have r:bH n.data.toList=true/\n∉aw/\e.src aY 2/\e6 G a (aY++[n]) (aw++[n]) rest:=⟨F.1,λhm=>F.2.1 (hT n (by simp[an.all]) hm),dN hV 2 e F.2.2.1,ao⟩
  cases a<;>exact r
 | .set false n e rest,d,a,V,aY,T,aw,hV,hT,hd,h=>by
  have F:n∈V/\e.src V 2/\e6 G d V T rest:=by cases d<;>exact h
  have ao:=dg rest d a V aY T aw hV (λx hx=>hT x (by simp[an.all,hx])) hd F.2.2;have r:n∈aY/\e.src aY 2/\e6 G a aY aw rest:=⟨hV F.1,dN hV 2 e F.2.1,ao⟩
  cases a<;>exact r
 | .call g n aV rest,d,a,V,aY,T,aw,hV,hT,hd,h=>by
  have F:(∃ps,(n,ps)∈G.funcs/\iR G V ps aV)/\e6 G d V T rest:=by cases d<;>exact h
  have ao:=dg rest d a V aY T aw hV (λx hx=>hT x (by simp[an.all,hx])) hd F.2;obtain⟨ps,cg,aK⟩:=F.1;have r:(∃ps,(n,ps)∈G.funcs/\iR G aY ps aV)/\e6 G a aY aw rest:=⟨⟨ps,cg,nX hV ps aV aK⟩,ao⟩
  cases a<;>exact r
 | .lock u r rest,d,a,V,aY,T,aw,hV,hT,hd,h=>by
  have F:su G V r/\e6 G d V T rest:=by cases d<;>exact h
  have ao:=dg rest d a V aY T aw hV (λx hx=>hT x (by simp[an.all,hx])) hd F.2;have r:su G aY r/\e6 G a aY aw rest:=⟨kT hV F.1,ao⟩
  cases a<;>exact r
 | .ite e th el rest,0,a,V,aY,T,aw,hV,hT,hd,h=>h.elim
 | .gz e th rest,0,a,V,aY,T,aw,hV,hT,hd,h=>h.elim
 | .ite e th el rest,d+1,0,V,aY,T,aw,hV,hT,hd,h=>ad
 | .gz e th rest,d+1,0,V,aY,T,aw,hV,hT,hd,h=>ad
 | .ite e th el rest,d+1,a+1,V,aY,T,aw,hV,hT,hd,h=>
  ⟨dN hV 2 e h.1,dg th d a V aY T aw hV (λx hx=>hT x (by simp[an.all,hx])) ad h.2.1,
   dg el d a V aY T aw hV (λx hx=>hT x (by simp[an.all,hx])) ad h.2.2.1,dg rest (d+1) (a+1) V aY T aw hV (λx hx=>hT x (by simp[an.all,hx])) hd h.2.2.2⟩
 | .gz e th rest,d+1,a+1,V,aY,T,aw,hV,hT,hd,h=>
  ⟨dN hV 2 e h.1,dg th d a V aY T aw hV (λx hx=>hT x (by simp[an.all,hx])) ad h.2.1,dg rest (d+1) (a+1) V aY T aw hV (λx hx=>hT x (by simp[an.all,hx])) hd h.2.2⟩
 | .ret rest,d,a,V,aY,T,aw,hV,hT,hd,h=>by
  have F:e6 G d V T rest:=by cases d<;>exact h
  have ao:=dg rest d a V aY T aw hV (λx hx=>hT x (by simpa[an.all] using hx)) hd F;cases a<;>exact ao
def ho(k:Nat):ByteArray:=⟨#[118,UInt8.ofNat (97+k % 26),UInt8.ofNat (97+k / 26 % 26)]⟩
theorem zn{j:Nat}(bi:j<26)(ap:k<26)(h:ho j=ho k):j=k:=by
 unfold ho at h;rw[ByteArray.ext_iff] at h;have au:=congrArg (λa:Array UInt8=>a[1]!) h;have aY:(UInt8.ofNat (97+j % 26)).toNat=(UInt8.ofNat (97+k % 26)).toNat:=congrArg UInt8.toNat au;simp at aY;omega
theorem Fj(ap:k<26):bH (ho k).data.toList=true:=by
 have:∀k:Fin 26,bH (ho k.val).data.toList=true:=by decide
 exact this ⟨k,ap⟩
structure Made(G:Env)(d:Nat)(V T:L4)(L R:Nat)(l:List aA):Prop where
 wf:e6 G d V T (.eQ l)
 all:∀n∈(an.eQ l).all,∃k,R<=k/\k<L/\n=ho k
 num:(an.eQ l).num<=2*(L - R)
 le:R<=L
theorem Made.nil(G:Env)(d:Nat)(V T:L4)(L:Nat):Made G d V T L L []:=⟨np,λn h=>by simp[an.eQ,an.all] at h,by simp[an.eQ,an.num],Lk _⟩
def mA(T:L4)(L:Nat):Prop:=∀k,k<L->ho k∉T
theorem Made.free{R:Nat}(h:Made G d V T L R l)(bU:L<=26)(J:mA T L):mA (T++decls l) R:=λk ap hm=>by
 rcases Lt.1 hm with hm|hm
 .exact J k (aD h.le) hm
 .obtain⟨j,ac,au,aY⟩:=h.all _ (yK l hm);have:=zn ad ad aY;omega
theorem Made.snoc{ba dO:Nat}(h:Made G d V T L ba l){m:List aA}(hm:e6 G d (V++decls l) (T++decls l) (.eQ m))(bz:∀n∈(an.eQ m).all,∃k,dO<=k/\k<ba/\n=ho k)
  (hn:(an.eQ m).num<=2*(ba - dO)) (hle:dO<=ba):Made G d V T L dO (l++m):=by
 refine⟨tQ.2 ⟨h.wf,hm⟩,λn hn=>?_,?_,LD hle h.le⟩
 .rw[xW] at hn;rcases Lt.1 hn with hn|hn
  .obtain⟨k,ac,au,aY⟩:=h.all n hn;exact⟨k,ad,au,aY⟩
  .obtain⟨k,ac,au,aY⟩:=bz n hn;exact⟨k,ac,by have:=h.le;omega,aY⟩
 .rw[yk];have ac:=h.num;have au:=h.le;omega
def dR(i:Nat):ByteArray:=⟨#[103,UInt8.ofNat (48+i)]⟩
def iI(i:Nat):ByteArray:=⟨#[UInt8.ofNat (97+i)]⟩
def jE(i:Nat):ByteArray:=if i=0 then iJ else ⟨#[102,UInt8.ofNat (48+i)]⟩
def uV(i:Nat):ByteArray:=⟨#[112,UInt8.ofNat (48+i)]⟩
def e4:Nat->List ByteArray
 | 0=>[]
 | n+1=>uV (n+1)::e4 n
def xm(ng nm nf:Nat):List ByteArray:=(List.range ng).map dR++(List.range nm).map iI++(List.range nf).map jE
def oh:List ByteArray:=xm 2 4 4++e4 2
theorem qj:oh.Nodup:=by
 have h:(oh.map λs=>s.data.toList).Nodup:=by decide
 exact(List.pairwise_map.1 h).imp λbf e=>bf (by rw[e])
theorem ti:∀s∈oh,bH s.data.toList=true:=by decide
theorem yU:mA oh 26:=by
 have h:∀k:Fin 26,(ho k.val).data.toList∉oh.map λs=>s.data.toList:=by decide
 intro k ap hm;exact h ⟨k,ap⟩ (LL.2 ⟨_,hm,rfl⟩)
theorem w0{n:Nat}(h:n<=2):(e4 n).Sublist (e4 2):=by
 obtain rfl|rfl|rfl:n=0\/n=1\/n=2:=ad
 .exact List.nil_sublist _
 .exact List.Sublist.cons _ (List.Sublist.refl _)
 .exact List.Sublist.refl _
theorem Ff{ng nm nf n:Nat}(ac:ng<=2)(au:nm<=4)(aY:nf<=4)(bR:n<=2):(xm ng nm nf++e4 n).Sublist oh:=by
 unfold oh xm;refine List.Sublist.append (List.Sublist.append (List.Sublist.append ?_ ?_) ?_) (w0 bR)
 .exact(List.range_sublist.2 ac).map _
 .exact(List.range_sublist.2 au).map _
 .exact(List.range_sublist.2 aY).map _
theorem nK{α:Type}{f:α->ByteArray}{h:Nat->ByteArray}{l:List α}(hl:∀i x,l[i]?=some x->f x=h i):l.map f=(List.range l.length).map h:=by
 apply List.ext_getElem?
 intro i;rw[List.getElem?_map,List.getElem?_map];by_cases an:i<l.length
 .have hx:l[i]?=some l[i]:=List.getElem?_eq_getElem an;rw[hx,List.getElem?_range an];simp[hl i _ hx]
 .rw[List.getElem?_eq_none ad,List.getElem?_eq_none (by simp;omega)];rfl
structure gF(p:bP):Prop where
 ng:p.globals.length<=2
 nm:1<=p.af.length/\p.af.length<=4
 nf:1<=p.funcs.length/\p.funcs.length<=4
 gs:∀i g,p.globals[i]?=some g->g.1=dR i∧-2<=g.2/\g.2<=2
 ms:∀i m,p.af[i]?=some m->m.name=iI i/\0<=m.size/\m.size<=3/\(m.re=true->m.size=0)
 fs:∀i f,p.funcs[i]?=some f->f.name=jE i/\(∃n,n<=2/\f.params.map (·.1)=e4 n)/\(i=0->f.params=[])
theorem gF.xm{p:bP}(h:gF p):bk p=xm p.globals.length p.af.length p.funcs.length:=by
 unfold bk fu YtkhnkojkplbioaaGreat.xm;rw[nK λi x hx=>(h.gs i x hx).1,nK λi x hx=>(h.ms i x hx).1,nK λi x hx=>(h.fs i x hx).1]
theorem gF.sub(h:gF p)(J:f∈p.funcs):(bk p++f.params.map (·.1)).Sublist oh:=by
 obtain⟨i,an⟩:=List.getElem?_of_mem J;obtain⟨n,hn,hp⟩:=(h.fs i f an).2.1;rw[h.xm,hp];exact Ff h.ng h.nm.2 h.nf.2 hn
theorem mj:∀n,(e4 n).length=n
 | 0=>rfl
 | n+1=>by simp[e4,mj n]
theorem gF.jF(h:gF p)(J:f∈p.funcs):f.params.length<=2:=by
 obtain⟨i,an⟩:=List.getElem?_of_mem J;obtain⟨n,hn,hp⟩:=(h.fs i f an).2.1;have:=congrArg List.length hp;rw[Lo,mj] at this;omega
theorem gF.free(h:gF p)(J:f∈p.funcs):mA (bk p++f.params.map (·.1)) 26:=λk ap hm=>yU k ap ((h.sub J).subset hm)
theorem gF.Kf(h:gF p):∃f,p.funcs[0]?=some f/\f.name=iJ/\f.params=[]:=by
 have:0<p.funcs.length:=h.nf.1;have hx:p.funcs[0]?=some p.funcs[0]:=List.getElem?_eq_getElem this;exact⟨_,hx,(h.fs 0 _ hx).1,(h.fs 0 _ hx).2.2 rfl⟩
theorem gF.env(h:gF p)(J:f∈p.funcs):n7 (h3 p f):=by
 have ap:∀{f:aK},f∈p.funcs->∀s∈bk p++f.params.map (·.1),bH s.data.toList=true:=λJ s hs=>ti s ((h.sub J).subset hs);refine⟨λm hm=>ap J _ ?_,λq bA=>ap J _ ?_,λg a9=>?_⟩
 .simp only[bk,Lt,LL];exact .inl (.inl (.inr ⟨m,hm,rfl⟩))
 .simp only[Lt,LL];exact .inr ⟨q,bA,rfl⟩
 .obtain⟨k,b0,rfl⟩:=LL.1 a9;refine⟨ap b0 _ ?_,h.jF b0⟩;simp only[bk,Lt,LL];exact .inl (.inr ⟨k,b0,rfl⟩)
theorem gF.vars(h:gF p)(J:f∈p.funcs):dM (fu p++cw f.params):=λs hs=>by
 refine ti s ((h.sub J).subset ?_);rcases Lt.1 hs with hs|hs
 .exact Lt.2 (.inl (by simp only[bk,Lt];exact .inl (.inl hs)))
 .obtain⟨q,bA,rfl⟩:=LL.1 hs;exact Lt.2 (.inr (LL.2 ⟨q,(List.mem_filter.1 bA).1,rfl⟩))
theorem gF.wf(h:gF p)(O:∀f∈p.funcs,e6 (h3 p f) 4 (fu p++cw f.params) (bk p++f.params.map (·.1)) f.body)(hn:(p.funcs.map λf=>f.body.num).sum<=64):oR p:=by
 obtain⟨f0,h0,b,a⟩:=h.Kf;have ao:=Ln h0;have hs:=h.sub ao;rw[a] at hs;simp only[LK,LM] at hs;refine⟨λs hm=>ti s (hs.subset hm),hs.nodup qj,by have:=h.ng;omega,by have:=h.nm;omega,by have:=h.nf;omega,λg a9=>?_,λm hm=>?_,λf J=>?_,⟨0,f0,h0,b,a⟩,hn⟩
 .obtain⟨i,an⟩:=List.getElem?_of_mem a9;have:=(h.gs i g an).2;omega
 .obtain⟨i,an⟩:=List.getElem?_of_mem hm;have:=(h.ms i m an).2;exact⟨this.1,ad,this.2.2⟩
 .refine⟨(h.env J).params,h.jF J,(h.sub J).nodup qj,O f J⟩
theorem oZ(g:ByteArray×Int):(iD g).sz=2:=rfl
theorem mI{g:ByteArray×Int}:(iD g).rep w P cs↔cs=[.string g.1,.int .i64 g.2]:=by
 unfold iD;rw[bM,ct];exact DK
theorem uu(g:ByteArray×Bool):(dv g).sz=2:=rfl
theorem rU{g:ByteArray×Bool}:(dv g).rep w P cs↔cs=[.string g.1,.bool g.2]:=by
 exact Hh
theorem p5(f:aK):(du f).sz=3:=rfl
theorem kE(h:(du f).rep w P cs):∃A n c B m d,cs=[.string f.name,.slice A n c,.slice B m d]/\Sl w P A n (f.params.map dv)/\Sl w P B m (c6 f.body):=by
 unfold du at h;rw[bM,ct] at h;obtain⟨y,rfl,h⟩:=h;obtain⟨A,n,c,ch,rfl,_,ac,h⟩:=aN.1 h;obtain⟨B,m,d,bA,rfl,_,au,h⟩:=aN.1 h;rw[aP] at h;subst h;exact⟨_,_,_,_,_,_,rfl,ac,au⟩
theorem te(m:bD):(eD m).sz=3:=rfl
theorem jg(n:Int):lP n=aY (hP n):=rfl
structure hy(w:World)(P:Nat->Prop)(p:bP)(GA:L3)(gn:Nat)(MA:L3)(mn:Nat)(FA:L3)(fn:Nat):Prop where
 g:Sl w P GA gn (p.globals.map iD)
 m:Sl w P MA mn (p.af.map eD)
 f:Sl w P FA fn (p.funcs.map du)
theorem pj(s:ByteArray):s.size=s.data.toList.length:=rfl
theorem w4(l:List (ByteArray×Bool))(k:Nat):(hi (l.take k)).length<=(hi (l.take (k+1))).length:=by
 cases h:l[k]? with
 | none=>rw[Ls (i:=k+1) (by have:=List.getElem?_eq_none_iff.1 h;omega),Ls (List.getElem?_eq_none_iff.1 h)];exact Lk _
 | some a=>rw[qM h];simp
theorem qL(l:List (ByteArray×Bool)):∀j k:Nat,(hi (l.take k)).length<=(hi (l.take (k+j))).length
 | 0,k=>Lk _
 | j+1,k=>LD (qL l j k) (w4 l (k+j))
theorem uZ(l:List (ByteArray×Bool))(k:Nat):(hi (l.take k)).length<=(hi l).length:=by
 by_cases h:k<=l.length
 .have:=qL l (l.length - k) k;rw[show k+(l.length - k)=l.length by omega,List.take_length] at this;exact this
 .rw[Ls ad];exact Lk _
structure xH(p:bP):Prop where
 inits:∀g∈p.globals,-9223372036854775808<=g.2/\g.2<=9223372036854775807
 fB:∀m∈p.af,m.size<=9223372036854775807
 src:∀f∈p.funcs,nS f.body/\f.body.num<=900000/\f.params.length<=1000
 len:(aY (fH p)).length<=262144
 jF:p.globals.length<=1000/\p.af.length<=1000/\p.funcs.length<=1000
theorem y4(b:an)(h:nS b):hv b:=(Ke wL b h).1
namespace Cq
theorem A9{p:Prop}(h:p:=by
 generalize E:strOf (GT++(am++fq kk (p.funcs.take k)))=pre at *;have y:=ae E.symm;clear E;go_wp2;have bD:(((pre++(⟨#[102,117,110,99,32]⟩:ByteArray))++f.name)++(⟨#[40]⟩:ByteArray)).size<=600000:=by
  have cu:(⟨#[102,117,110,99,32]⟩:ByteArray).size=5:=rfl;have e1:(⟨#[40]⟩:ByteArray).size=1:=rfl;simp only[ByteArray.size_append];omega
 generalize K:((pre++(⟨#[102,117,110,99,32]⟩:ByteArray))++f.name)++(⟨#[40]⟩:ByteArray)=ak at *;have Q:=ae K.symm;clear K a0 aj af bv M;go_loopw [3,9] (λsv cO b3=>∃j:Nat,j<=pn/\cO=.int .i64 j/\sv=.string (ak++strOf (hi (f.params.take j)))/\Ext w b3/\aq b3 w.heap.size 27 #[.slice GA gn gc,.slice MA mn mc,.slice (some ⟨b,o,none⟩) fn fc]/\Ext V b3) (λ_ cO _=>pn - (intOf cO).toNat)
 case atStart=>
  refine⟨0,ad,rfl,?_,bx.o,G.o,LW⟩;have:strOf (hi (f.params.take 0))=⟨#[]⟩:=rfl;rw[this];congr 1
  rw[ByteArray.ext_iff];simp
 case round=>
  obtain⟨j,bi,rfl,rfl,aw,aR,hV⟩:=hrel;obtain⟨v,u,R⟩:=ek aw aR hV;obtain⟨a0,aj,af⟩:=(bV.aj hV).two;have az:(strOf (hi (f.params.take j))).size<=262144:=by
   rw[aO];exact LD (uZ f.params j) aa.o
  by_cases X:j<pn
  .obtain⟨pb,gP,q,cs,rfl,eQ,T,bE,a8,Z⟩:=(gO.on (Fr.ext hV)).g6 uu X;obtain rfl:=rU.1 bE;have c0:=Z 0 _ rfl;have c1:=Z 1 _ rfl;simp only[Lu] at c0;have bF:pb<_:=eQ;obtain⟨co,qm⟩:=q;have dR:=qM T;have H:co.size<=262144:=by
    have ac:=uZ f.params (j+1);have au:=aa.o;rw[dR] at ac;simp only[Lm] at ac;rw[pj];omega
   simp only at dR c0 c1 H;have Y:=ae dR;clear aw aR hV a8 Z T bE eQ dR;by_cases h0:0<j
   .have q1:decide ((j:Int) > 0)=true:=by simp;omega
    cases qm
    all_goals
     go_wp2;go_roundw
     case rel=>
      refine⟨j+1,ad,by go_num,?_,v.o,u.o,R.o⟩;rw[Y.o,if_pos h0];congr 1
      simp only[show (⟨#[44,32]⟩:ByteArray)=strOf [44,32] from rfl,show (⟨#[109,117,116,101,120,32]⟩:ByteArray)=strOf [109,117,116,101,120,32] from rfl];exact Ac
     case measure=>exact aH
   .have q1:decide ((j:Int) > 0)=false:=by simp;omega
    cases qm
    all_goals
     go_wp2;go_roundw
     case rel=>
      refine⟨j+1,ad,by go_num,?_,v.o,u.o,R.o⟩;rw[Y.o,if_neg h0];congr 1
      try simp only[show (⟨#[109,117,116,101,120,32]⟩:ByteArray)=strOf [109,117,116,101,120,32] from rfl]
      exact Ac
     case measure=>exact aH
  .obtain rfl:pn=j:=ad;have ao:=ae (show hi (f.params.take pn)=hi f.params by rw[<-an.o,List.take_length]);rw[ao.o] at az ⊢;clear aw aR hV X;go_wp2_with(fail);refine((show hv f.body from U.1) 1 fy bn bc _ (aD U.2) (dx.on (Fr.ext R.o)) I.o).mono ?_;rintro e hT ⟨rfl,S⟩;have eH:=ae (v.trans S);have N:=ae (u.aj S);clear S a0 aj af;go_wp2;go_roundw
   case rel=>
    refine⟨k+1,ad,by go_num,?_,eH.o,N.o⟩;obtain⟨c9,ai⟩:=i.o;rw[Q.o,y.o,c9,ai];congr 1
    simp only[show (⟨#[102,117,110,99,32]⟩:ByteArray)=strOf [102,117,110,99,32] from rfl,show (⟨#[40]⟩:ByteArray)=strOf [40] from rfl,show (⟨#[41,32,123,10]⟩:ByteArray)=strOf [41,32,123,10] from rfl,show (⟨#[125,10]⟩:ByteArray)=strOf [125,10] from rfl];conv=>lhs;rw[<-dd f.name]
    simp only[ah];simp
   case measure=>exact aH
 ):p:=h
theorem vU{p:Prop}(h:p:=by
 have hlen:=hp.len;have c4:gn<=1000:=by have:=hp.jF;omega
 have cP:mn<=1000:=by have:=hp.jF;omega
 have dJ:fn<=1000:=by have:=hp.jF;omega
 rw[sd] at hlen;simp only[Lm] at hlen;rw[sd];obtain⟨cq,cX,cR,bX⟩:=iX hp a9 hm J;have b8:=aE ds lm lf;have F:=ae hlen;clear h a9 hm J ds lm lf hlen hp;go_enter func132,ntmps132;go_wp2;generalize be:World.alloc _ _=W;have aw:=aW be;have aR:=aI be;clear be;obtain⟨bo,bO⟩:=aJ aw aR;clear aw aR;go_loopw [3,4] (λsv bg wr=>∃k:Nat,k<=gn/\bg=.int .i64 k/\sv=.string (strOf (fq h4 (p.globals.take k)))/\Ext w wr/\aq wr w.heap.size 27 #[.slice GA gn gc,.slice MA mn mc,.slice FA fn fc]) (λ_ bg _=>gn - (intOf bg).toNat)
 case atStart=>exact⟨0,ad,rfl,rfl,bo.o,bO.o⟩
 case round=>
  obtain⟨k,ap,rfl,rfl,aw,aR⟩:=hrel;clear bo bO;obtain⟨bo,bO⟩:=aJ aw aR;obtain⟨a0,aj,af⟩:=aR.two;have bv:(strOf (fq h4 (p.globals.take k))).size<=262144:=by
   rw[aO];have ac:=kW h4 p.globals k;have au:=F.o;omega
  by_cases al:k<gn
  .obtain⟨b,o,g,cs,rfl,O,r,aP,a8,Z⟩:=(cX.on (Fr.ext aw)).g6 oZ al;obtain rfl:=mI.1 aP;have c0:=Z 0 _ rfl;have c1:=Z 1 _ rfl;simp only[Lu] at c0;have aT:b<wr.heap.size:=O;obtain⟨nm,z⟩:=g;have ba:=cq.inits _ (Ln r);have c9:=nw (f:=h4) r;have ai:=Em (nm,z);have hle:=kW h4 p.globals (k+1);have l:(fq h4 (p.globals.take (k+1))).length<=262144:=by have:=F.o;omega
   rw[c9,ai] at l;simp only[Lm] at l;have M:nm.size<=262144:=by rw[pj];omega
   simp only at ba ai c0 c1 M;by_cases h0:z=0
   .subst h0;have aL:=ae (show ((strOf (fq h4 (p.globals.take k))++(⟨#[118,97,114,32]⟩:ByteArray))++nm)++(⟨#[59,10]⟩:ByteArray)=strOf (fq h4 (p.globals.take (k+1))) by
     rw[c9,ai,show (⟨#[118,97,114,32]⟩:ByteArray)=strOf [118,97,114,32] from rfl,show (⟨#[59,10]⟩:ByteArray)=strOf [59,10] from rfl];conv=>lhs;rw[<-dd nm]
     rw[ah,ah,ah];simp)
    clear aw aR r aP a8 Z c9 ai hle l ba O;go_wp2;go_roundw
    case rel=>exact⟨k+1,ad,by go_num,by rw[<-aL.o],bo.o,bO.o⟩
    case measure=>exact aH
   .have q1:(z != 0)=true:=by simpa using h0
    have cN:(z == 0)=false:=by simpa using h0
    rw[if_neg h0] at ai l;simp only[Lm] at l;have s:(strOf (lP z)).size<=262144:=by rw[aO,jg];omega
    have aL:=ae (show ((((strOf (fq h4 (p.globals.take k))++(⟨#[118,97,114,32]⟩:ByteArray))++nm)++(⟨#[32,61,32]⟩:ByteArray))++strOf (lP z))++(⟨#[59,10]⟩:ByteArray)=strOf (fq h4 (p.globals.take (k+1))) by
     rw[c9,ai,show (⟨#[118,97,114,32]⟩:ByteArray)=strOf [118,97,114,32] from rfl,show (⟨#[59,10]⟩:ByteArray)=strOf [59,10] from rfl,show (⟨#[32,61,32]⟩:ByteArray)=strOf [32,61,32] from rfl,jg];conv=>lhs;rw[<-dd nm]
     rw[ah,ah,ah,ah,ah];simp)
    clear aw aR r aP a8 Z c9 ai hle l O h0;go_wp2_with(fail);refine(mg z _ ba).mono ?_;rintro e aS ⟨rfl,ar⟩;have bx:=ae (bo.trans (Fr.of ar));have G:=ae (bO.aj (Fr.of ar));clear ar a0 aj af c0 c1;go_wp2;go_roundw
    case rel=>exact⟨k+1,ad,by go_num,by rw[<-aL.o],bx.o,G.o⟩
    case measure=>exact aH
  .obtain rfl:gn=k:=ad;have n:=ae (show fq h4 (p.globals.take gn)=fq h4 p.globals by rw[<-b8.1,List.take_length]);rw[n.o] at bv ⊢;clear aw aR;generalize ax:fq h4 p.globals=GT at *;go_wp2;clear a0 aj af n;go_loopw [3,5] (λsv bg wr=>∃k:Nat,k<=mn/\bg=.int .i64 k/\sv=.string (strOf (GT++fq kn (p.af.take k)))/\Ext w wr/\aq wr w.heap.size 27 #[.slice GA gn gc,.slice MA mn mc,.slice FA fn fc]) (λ_ bg _=>mn - (intOf bg).toNat)
   case atStart=>exact⟨0,ad,rfl,by simp[fq],bo.o,bO.o⟩
   case round=>
    obtain⟨k,ap,rfl,rfl,aw,aR⟩:=hrel;clear bo bO bv;obtain⟨bo,bO⟩:=aJ aw aR;obtain⟨a0,aj,af⟩:=aR.two;have bv:(strOf (GT++fq kn (p.af.take k))).size<=262144:=by
     rw[aO,Lm];have ac:=kW kn p.af k;have au:=F.o;omega
    by_cases dt:k<mn
    .obtain⟨b,o,m,cs,rfl,O,r,aP,a8,Z⟩:=(cR.on (Fr.ext aw)).g6 te dt;obtain rfl:=fh.1 aP;have c0:=Z 0 _ rfl;have c1:=Z 1 _ rfl;have c2:=Z 2 _ rfl;simp only[Lu] at c0;have aT:b<wr.heap.size:=O;obtain⟨nm,re,z⟩:=m;have ba:=cq.fB _ (Ln r);have c9:=nw (f:=kn) r;have ai:=Ez ⟨nm,re,z⟩;have hle:=kW kn p.af (k+1);have l:GT.length+(fq kn (p.af.take (k+1))).length<=262144:=by have:=F.o;omega
     rw[c9,ai] at l;simp only[Lm] at l;have M:nm.size<=262144:=by rw[pj];omega
     simp only at ba ai c0 c1 c2 M;have s:0<z->(strOf (lP z)).size<=262144:=λh0=>by
      rw[if_pos h0] at l;simp only[Lm] at l;rw[aO,jg];omega
     clear a8 Z hle l r aP O aw aR;have P:=ae c9;go_upto_region 13 with(fail);generalize hV:World.alloc _ _=V;have L:=aW hV;have bx:=ae (bo.trans L);have G:=ae (bO.aj L);have hC:=aI hV;clear hV a0 aj af c0 c1 c2 aT bo bO L c9;obtain⟨a0,aj,af⟩:=hC.two;clear hC;cases re
     all_goals
      by_cases h0:0<z
      .rw[if_pos h0] at ai;have cx:=s h0;have q1:decide (z > 0)=true:=by simpa using h0
       have c6:-9223372036854775808<=z/\z<=9223372036854775807:=ad;have i:=ae ai;clear ai h0 s;go_wp2_with(fail);refine(mg z _ c6).mono ?_;rintro e aS ⟨rfl,ar⟩;have aX:=ae (bx.trans (Fr.of ar));have bB:=ae (G.aj (Fr.of ar));clear ar a0 aj af;go_wp2;go_roundw
       case rel=>
        refine⟨k+1,ad,by go_num,?_,aX.o,bB.o⟩;rw[P.o,i.o,<-jg];congr 1
        simp only[show (⟨#[114]⟩:ByteArray)=strOf [114] from rfl,show (⟨#[109,117,116,101,120,32]⟩:ByteArray)=strOf [109,117,116,101,120,32] from rfl,show (⟨#[91]⟩:ByteArray)=strOf [91] from rfl,show (⟨#[93]⟩:ByteArray)=strOf [93] from rfl,show (⟨#[59,10]⟩:ByteArray)=strOf [59,10] from rfl];conv=>lhs;rw[<-dd nm]
        simp only[ah];simp
       case measure=>exact aH
      .rw[if_neg h0] at ai;have q1:decide (z > 0)=false:=by simp;omega
       have i:=ae ai;clear ai h0 s ba;go_wp2;go_roundw
       case rel=>
        refine⟨k+1,ad,by go_num,?_,bx.o,G.o⟩;rw[P.o,i.o];congr 1
        simp only[show (⟨#[114]⟩:ByteArray)=strOf [114] from rfl,show (⟨#[109,117,116,101,120,32]⟩:ByteArray)=strOf [109,117,116,101,120,32] from rfl,show (⟨#[59,10]⟩:ByteArray)=strOf [59,10] from rfl];conv=>lhs;rw[<-dd nm]
        simp only[ah];simp
       case measure=>exact aH
    .obtain rfl:mn=k:=ad;have n:=ae (show fq kn (p.af.take mn)=fq kn p.af by rw[<-b8.2.1,List.take_length]);rw[n.o] at bv ⊢;clear aw aR;generalize ay:fq kn p.af=am at *;go_wp2;clear a0 aj af n;go_loopw [3,7] (λsv bg wr=>∃k:Nat,k<=fn/\bg=.int .i64 k/\sv=.string (strOf (GT++(am++fq kk (p.funcs.take k))))/\Ext w wr/\aq wr w.heap.size 27 #[.slice GA gn gc,.slice MA mn mc,.slice FA fn fc]) (λ_ bg _=>fn - (intOf bg).toNat)
     case atStart=>exact⟨0,ad,rfl,by simp[fq],bo.o,bO.o⟩
     case round=>
      obtain⟨k,ap,rfl,rfl,aw,aR⟩:=hrel;clear bo bO bv;obtain⟨bo,bO⟩:=aJ aw aR;obtain⟨a0,aj,af⟩:=aR.two;have bv:(strOf (GT++(am++fq kk (p.funcs.take k)))).size<=262144:=by
       rw[aO,Lm,Lm];have ac:=kW kk p.funcs k;have au:=F.o;omega
      by_cases bN:k<fn
      .obtain⟨b,o,f,cs,rfl,O,r,aP,a8,Z⟩:=(bX.on (Fr.ext aw)).g6 p5 bN;obtain⟨PA,pn,pc,fy,bn,bc,rfl,cg,bl⟩:=kE aP;have c0:=Z 0 _ rfl;have c1:=Z 1 _ rfl;have c2:=Z 2 _ rfl;simp only[Lu] at c0;have aT:b<wr.heap.size:=O;have ba:=cq.src _ (Ln r);have c9:=nw (f:=kk) r;have ai:=Ee f;have hle:=kW kk p.funcs (k+1);have l:GT.length+(am.length+(fq kk (p.funcs.take (k+1))).length)<=262144:=by have:=F.o;omega
       rw[c9,ai] at l;simp only[Lm] at l;have M:f.name.size<=262144:=by rw[pj];omega
       have aZ:(hi f.params).length<=262144:=ad;have bM:(cF 1 f.body).length<=262144:=ad;have bp:f.params.length=pn:=by rw[<-cg.1,Lo]
       have gu:pn<=1000:=ad;obtain⟨aa,I,an⟩:=ek aZ bM bp;have U:=ag (y4 f.body ba.1) ba.2.1;have aA:(strOf (cF 1 f.body)).size<=262144:=by rw[aO];exact bM
       have i:=ag c9 ai;clear a8 Z hle l r aP O aw aR c9 ai ba aZ bM bp;go_upto_region 23 with(fail);exact A8
      .obtain rfl:fn=k:=ad;have n:=ae (show fq kk (p.funcs.take fn)=fq kk p.funcs by rw[<-b8.2.2,List.take_length]);rw[n.o];clear aw aR;go_wp2;go_ret;exact⟨ret_str (by rw[<-ax,<-ay]),bo.o⟩
 ):p:=h
end Cq
open Cq in
theorem uX(p:bP)(hp:xH p)(GA:L3)(gn gc:Nat)(MA:L3)(mn mc:Nat)(FA:L3)(fn fc:Nat)(w:World)(h:hy w (av w) p GA gn MA mn FA fn) :
  Calls prog 132 #[.agg #[.slice GA gn gc,.slice MA mn mc,.slice FA fn fc]] w λe ab=>e=.returned (.string (strOf (aY (fH p))))/\Ext w ab:=by
 exact vT
theorem F3{l:List UInt8}(h:(dw l).2.2=0):l.length<=262144:=by
 unfold dw at h;split at h
 .simp at h
 .omega
theorem oR.print(hp:oR p):xH p where
 inits:=λg a9=>by have:=hp.inits g a9;omega
 fB:=λm hm=>by have:=hp.fB m hm;omega
 src:=λf J=>⟨jo _ 4 (kq (hp.env J) f.body 4 _ _ (hp.vars J) (hp.funcs f J).body),by
  have ac:f.body.num<=(p.funcs.map λf=>f.body.num).sum:=jq (λf:aK=>f.body.num) J;have:=hp.jF;omega,by have:=(hp.funcs f J).jF;omega⟩
 len:=F3 (uW hp)
 jF:=by
  have:=hp.ou;have:=hp.wV;have:=hp.EG;omega
theorem yw(w:World)(s:ByteArray)(cap:Nat)(hc:s.size<=cap)(hs:s.size<=1000000)(e:TypeId)(sp:Nat×Nat):fx (w.alloc (.cells (bytesRow s cap) e sp)) w.heap.size 0 cap s:=by
 refine⟨λi an=>?_,by simp,hc,hs⟩;rw[LF,cell_of_row _ _ i _ e sp (heap_alloc_new w _)];unfold bytesRow;rw[Array.getElem?_append_left (by simpa using an)];simp only[Array.getElem?_map];rw[Array.getElem?_eq_getElem (by simpa using an)];rfl
namespace Cx
theorem A9{p:Prop}(h:p:=by
 go_wp2_with(fail);refine(hb f.name _ bI).mono ?_;rintro e aS ⟨rfl,ar⟩;rw[l.o];have aX:=ae (bx.trans ar);have bB:=ae (G.aj ar);have bv:=ae (bV.aj ar);have i:=ae ar;clear ar a0 aj af;obtain⟨a0,aj,af⟩:=bv.two;go_wp2_with(fail);refine((show GG f.body from uU f.body) 4 0 _ _ _ _ aa.o (aD fI.o) ad (dx.on (Fr.ext i.o))).mono ?_;rintro e aU ⟨rfl,bL⟩;have bd:=ae (aX.trans bL);have a4:=ae (bB.aj bL);have U:=ae (bv.aj bL);have ag:=ae (i.trans bL);clear bL a0 aj af;obtain⟨a0,aj,af⟩:=U.two;go_wp2;clear a0 aj af;go_loopw [8] (λcO b3=>∃j:Nat,j<=pn/\cO=.int .i64 j/\Ext w b3/\aq b3 w.heap.size 27 #[.slice GA gn gc,.slice MA mn mc,.slice (some ⟨b,o,none⟩) fn fc]/\Ext V b3) (λcO _=>pn - (intOf cO).toNat)
 case atStart=>exact⟨0,ad,rfl,bd.o,a4.o,ag.o⟩
 case round=>
  obtain⟨j,bi,rfl,aw,aR,hV⟩:=hrel;obtain⟨v,u,R⟩:=ek aw aR hV;obtain⟨a0,aj,af⟩:=(bV.aj hV).two;by_cases X:j<pn
  .obtain⟨pb,gP,q,cs,rfl,eQ,T,bE,a8,Z⟩:=(gO.on (Fr.ext hV)).g6 uu X;obtain rfl:=rU.1 bE;have c0:=Z 0 _ rfl;have c1:=Z 1 _ rfl;simp only[Lu] at c0;have bF:pb<_:=eQ;have H:=y.params _ (Ln T);obtain⟨co,qm⟩:=q;simp only at H c0 c1;have ac:=ae (show jJ co=true from H);have ak:=ik H;clear aw aR hV a8 Z T bE eQ H;go_wp2_with(fail);refine(hb co _ ak).mono ?_;rintro e cK ⟨rfl,dr⟩;rw[ac.o];have F:=ae (v.trans dr);have N:=ae (u.aj dr);have ah:=ae (R.trans dr);clear dr a0 aj af c0 c1 bF;go_wp2;go_roundw
   case rel=>exact⟨j+1,ad,by go_num,F.o,N.o,ah.o⟩
   case measure=>exact aH
  .obtain rfl:pn=j:=ad;clear aw aR hV X;go_wp2;go_roundw
   case rel=>exact⟨k+1,ad,by go_num,v.o,u.o⟩
   case measure=>exact aH
 ):p:=h
theorem sZ{p:Prop}(h:p:=by
 obtain⟨cq,cX,cR,bX,ax⟩:=Dp hp a9 hm J hp.names;clear h a9 hm J ds lm lf hp;go_enter func90,ntmps90;go_upto_region 1 with(fail);generalize be:World.alloc _ _=W;have aw:=aW be;have aR:=aI be;clear be;obtain⟨bo,bO⟩:=aJ aw aR;obtain⟨a0,aj,af⟩:=aR.two;clear aw aR;go_wp2;clear a0 aj af;go_loopw [3] (λbg wr=>∃k:Nat,k<=gn/\bg=.int .i64 k/\Ext w wr/\aq wr w.heap.size 27 #[.slice GA gn gc,.slice MA mn mc,.slice FA fn fc]) (λbg _=>gn - (intOf bg).toNat)
 case atStart=>exact⟨0,ad,rfl,bo.o,bO.o⟩
 case round=>
  obtain⟨k,ap,rfl,aw,aR⟩:=hrel;clear bo bO;obtain⟨bo,bO⟩:=aJ aw aR;obtain⟨a0,aj,af⟩:=aR.two;by_cases al:k<gn
  .obtain⟨b,o,g,cs,rfl,O,r,aP,a8,Z⟩:=(cX.on (Fr.ext aw)).g6 oZ al;obtain rfl:=mI.1 aP;have c0:=Z 0 _ rfl;have c1:=Z 1 _ rfl;simp only[Lu] at c0;have aT:b<_:=O;obtain⟨nm,z⟩:=g;have ba:=cq.inits _ (Ln r);have I:bH nm.data.toList=true:=ax.o nm (by simp only[bk,fu,Lt,LL];exact .inl (.inl ⟨_,Ln r,rfl⟩));have l:=ae (show jJ nm=true from I);have bI:=ik I;simp only at ba c0 c1;have bJ:(z == -9223372036854775808)=false:=by simp;omega
   clear aw aR r aP a8 Z O I;go_wp2_with(fail);refine(hb nm _ bI).mono ?_;rintro e aS ⟨rfl,ar⟩;rw[l.o];have bx:=ae (bo.trans ar);have G:=ae (bO.aj ar);have f1:=(ar.cell (j:=o+k*2+1) aT (λh=>h)).trans c1;have b1:b<aS.heap.size:=Ll aT ar.size;clear ar a0 aj af c0 c1 aT;obtain⟨a0,aj,af⟩:=G.two;go_wp2;go_roundw
   case rel=>exact⟨k+1,ad,by go_num,bx.o,G.o⟩
   case measure=>exact aH
  .obtain rfl:gn=k:=ad;clear aw aR;go_wp2;clear a0 aj af;go_loopw [4] (λbg wr=>∃k:Nat,k<=mn/\bg=.int .i64 k/\Ext w wr/\aq wr w.heap.size 27 #[.slice GA gn gc,.slice MA mn mc,.slice FA fn fc]) (λbg _=>mn - (intOf bg).toNat)
   case atStart=>exact⟨0,ad,rfl,bo.o,bO.o⟩
   case round=>
    obtain⟨k,ap,rfl,aw,aR⟩:=hrel;clear bo bO;obtain⟨bo,bO⟩:=aJ aw aR;obtain⟨a0,aj,af⟩:=aR.two;by_cases dt:k<mn
    .obtain⟨b,o,m,cs,rfl,O,r,aP,a8,Z⟩:=(cR.on (Fr.ext aw)).g6 te dt;obtain rfl:=fh.1 aP;have c0:=Z 0 _ rfl;have c1:=Z 1 _ rfl;have c2:=Z 2 _ rfl;simp only[Lu] at c0;have aT:b<_:=O;obtain⟨nm,re,z⟩:=m;have ba:=cq.fB _ (Ln r);have I:bH nm.data.toList=true:=ax.o nm (by simp only[bk,Lt,LL];exact .inl (.inr ⟨_,Ln r,rfl⟩));have l:=ae (show jJ nm=true from I);have bI:=ik I;simp only at ba c0 c1 c2;have q1:decide (z<0)=false:=by simp;omega
     have cN:decide (z > 64)=false:=by simp;omega
     clear a8 Z r aP O aw aR I;go_upto_region 12 with(fail);generalize hV:World.alloc _ _=V;have L:=aW hV;have bx:=ae (bo.trans L);have G:=ae (bO.aj L);have hC:=aI hV;have bV:=ae hC;clear hV a0 aj af c0 c1 c2 aT bo bO L;obtain⟨a0,aj,af⟩:=hC.two;clear hC;go_wp2_with(fail);refine(hb nm _ bI).mono ?_;rintro e aS ⟨rfl,ar⟩;rw[l.o];have aX:=ae (bx.trans ar);have bB:=ae (G.aj ar);have an:=bV.aj ar;clear ar a0 aj af;obtain⟨a0,aj,af⟩:=an.two;clear an
     cases re with
     | false=>
      exact G9
     | true=>
      obtain rfl:z=0:=ba.2.2 rfl;exact G9
    .obtain rfl:mn=k:=ad;clear aw aR;go_wp2;clear a0 aj af;go_loopw [6] (λbg wr=>∃k:Nat,k<=fn/\bg=.int .i64 k/\Ext w wr/\aq wr w.heap.size 27 #[.slice GA gn gc,.slice MA mn mc,.slice FA fn fc]) (λbg _=>fn - (intOf bg).toNat)
     case atStart=>exact⟨0,ad,rfl,bo.o,bO.o⟩
     case round=>
      obtain⟨k,ap,rfl,aw,aR⟩:=hrel;clear bo bO;obtain⟨bo,bO⟩:=aJ aw aR;obtain⟨a0,aj,af⟩:=aR.two;by_cases bN:k<fn
      .obtain⟨b,o,f,cs,rfl,O,r,aP,a8,Z⟩:=(bX.on (Fr.ext aw)).g6 p5 bN;obtain⟨PA,pn,pc,fy,bn,bc,rfl,cg,bl⟩:=kE aP;have c0:=Z 0 _ rfl;have c1:=Z 1 _ rfl;have c2:=Z 2 _ rfl;simp only[Lu] at c0;have aT:b<_:=O;have cZ:=Ln r;have I:bH f.name.data.toList=true:=ax.o f.name (by simp only[bk,Lt,LL];exact .inr ⟨_,cZ,rfl⟩);have l:=ae (show jJ f.name=true from I);have bI:=ik I;have bp:f.params.length=pn:=by rw[<-cg.1,Lo]
       have gu:pn<=2:=by have:=(cq.funcs f cZ).jF;omega
       have y:=ae (cq.funcs f cZ);have aa:=ae (kq (cq.env cZ) f.body 4 _ _ (cq.vars cZ) (cq.funcs f cZ).body);have fI:=ae (cq.print.src f cZ).2.1;clear a8 Z r aP O aw aR I bp cZ;go_upto_region 18 with(fail);exact A8
      .obtain rfl:fn=k:=ad;have s:=ae (show hy _ (av _) p GA gn MA mn FA fn from ⟨cX.on (Fr.ext aw),cR.on (Fr.ext aw),bX.on (Fr.ext aw)⟩);clear aw aR;go_wp2_with(fail);refine(uX p cq.print GA gn gc MA mn mc FA fn fc _ s.o).mono ?_;rintro e c7 ⟨rfl,aG⟩;have F:=ae (bo.trans aG);have kc:=run_bytes_of_string (P:=prog) c7 9 143 5 (strOf (aY (fH p))) Tryz.underlying9 Tryz.underlying143 Tryz.underlying5;have hlen:(strOf (aY (fH p))).size<=262144:=by rw[aO];exact cq.print.len
       have K:=ae (uW cq.o);have ai:(strOf (aY (fH p))).data.toList=aY (fH p):=by simp[strOf]
       generalize hS:strOf (aY (fH p))=S at *;have aV:=grownCap_ge c7 S.size 0 5;generalize M:grownCap c7 S.size 0 5=cap at *;clear aG a0 aj af M;go_wp2_with(fail);generalize hV:World.alloc _ _=V;have hT:fx V c7.heap.size 0 cap S:=by
        rw[<-hV];exact yw c7 S cap aV ad _ _
       have L:=aW hV;have aM:=ae (F.trans L);clear hV L kc;refine(yc S c7.heap.size 0 cap V.drew (hT.on LW.drew) hlen).mono ?_;rintro e cS ⟨A,n,c,rfl,aL,cm,Q⟩;have Y:=ae (aM.drew.trans (Fr.of Q));rw[show (dw S.data.toList).2.2=0 by rw[ai];exact K.o];clear cm Q hT;go_wp2;go_ret;exact⟨rfl,Y.o⟩
 ):p:=h
theorem vU{p:Prop}(h:p:=by
 exact sY
 ):p:=h
end Cx
open Cx in
theorem Gx(p:bP)(hp:oR p)(GA:L3)(gn gc:Nat)(MA:L3)(mn mc:Nat)(FA:L3)(fn fc:Nat)(w:World)(h:hy w (av w) p GA gn MA mn FA fn) :
  Calls prog 90 #[.agg #[.slice GA gn gc,.slice MA mn mc,.slice FA fn fc]] w λe ab=>e=.returned (.bool true)/\Ext w ab:=by
 exact vT
end Go.Proofs.YtkhnkojkplbioaaGreat

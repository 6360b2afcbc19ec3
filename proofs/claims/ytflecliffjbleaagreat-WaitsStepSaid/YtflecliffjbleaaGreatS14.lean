/- Part 14 of the proof. No condition of its own. -/
import Derived.Test.YtflecliffjbleaaGreatS08
import Derived.Test.YtflecliffjbleaaGreatS13
namespace Go.Proofs.YtflecliffjbleaaGreat
open Go.RowKit Go.Proofs.Tryz
set_option maxRecDepth 1000000
set_option maxHeartbeats 25600000
set_option linter.unusedVariables false
variable{n:ByteArray}{G:Env}{T V:Ml}{cs:List Value}{l:List az}{L d k:Nat}{P:Nat->Prop}{w:World}{f:aG}{s:az}{p:bM}
def al.eT:List az->al
 | []=>.nil
 | .set v n e::l=>.set v n e (eT l)
 | .call g n aT::l=>.call g n aT (eT l)
 | .lock u r::l=>.lock u r (eT l)
 | .ite e th el::l=>.ite e th el (eT l)
 | .gG e th::l=>.gG e th (eT l)
 | .ret::l=>.ret (eT l)
theorem uG:∀l:List az,(al.eT l).list=l
 | []=>rfl
 | s::l=>by cases s<;>simp only[al.eT,al.list,uG l]
theorem mP(l:List az):c7 (.eT l)=l.map bg:=by rw[cH,uG]
def az.decl:az->List ByteArray
 | .set true n _=>[n]
 | _=>[]
def decls(l:List az):List ByteArray:=l.flatMap az.decl
theorem rO(l m:List az):decls (l++m)=decls l++decls m:=List.flatMap_append
def al.all:al->List ByteArray
 | .nil=>[]
 | .set true n _ rest=>n::rest.all
 | .set false _ _ rest=>rest.all
 | .call _ _ _ rest=>rest.all
 | .lock _ _ rest=>rest.all
 | .ite _ th el rest=>th.all++el.all++rest.all
 | .gG _ th rest=>th.all++rest.all
 | .ret rest=>rest.all
def az.all:az->List ByteArray
 | .set true n _=>[n]
 | .ite _ th el=>th.all++el.all
 | .gG _ th=>th.all
 | _=>[]
theorem all_cons(s:az)(l:List az):(al.eT (s::l)).all=s.all++(al.eT l).all:=by
 cases s with
 | set v n e=>cases v<;>rfl
 | ite e th el=>simp[al.eT,al.all,az.all]
 | gG e th=>simp[al.eT,al.all,az.all]
 | call g n aT=>rfl
 | lock u r=>rfl
 | ret=>rfl
theorem xW(l m:List az):(al.eT (l++m)).all=(al.eT l).all++(al.eT m).all:=by
 induction l with
 | nil=>rfl
 | cons s l aq=>rw[LR,all_cons,all_cons,aq,LQ]
theorem D1(s:az)(h:n∈s.decl):n∈s.all:=by
 cases s with
 | set v n e=>cases v<;>simp_all [az.decl,az.all]
 | _=>simp[az.decl] at h
theorem yR(l:List az)(h:n∈decls l):n∈(al.eT l).all:=by
 induction l with
 | nil=>simp[decls] at h
 | cons s l aq=>
  rw[all_cons];unfold decls at h;rw[LY] at h;rcases LL.1 h with h|h
  .exact LL.2 (.inl (D1 s h))
  .exact LL.2 (.inr (aq h))
def az.num:az->Nat
 | .ite _ th el=>th.num+el.num+1
 | .gG _ th=>th.num+1
 | _=>1
theorem kV(s:az)(l:List az):(al.eT (s::l)).num=s.num+(al.eT l).num:=by
 cases s<;>simp only[al.eT,al.num,az.num]<;>omega
theorem yj(l m:List az):(al.eT (l++m)).num=(al.eT l).num+(al.eT m).num:=by
 induction l with
 | nil=>simp[al.eT,al.num]
 | cons s l aq=>rw[LR,kV,kV,aq,Nat.add_assoc]
theorem tp(s:az):(al.eT [s]).num=s.num:=by rw[kV];simp[al.eT,al.num]
theorem uC(l:List az):l.length<=(al.eT l).num:=by
 induction l with
 | nil=>simp
 | cons s l aq=>
  rw[kV];have:1<=s.num:=by cases s<;>simp[az.num]
  simp;omega
def GJ(G:Env)(d:Nat)(V T:Ml):az->Prop
 | .set true n e=>bF n.data.toList=true/\n∉T/\e.src V 2
 | .set false n e=>n∈V/\e.src V 2
 | .call _ n aT=>∃ps,(n,ps)∈G.funcs/\iX G V ps aT
 | .lock _ r=>su G V r
 | .ite e th el=>∃k,d=k+1/\e.src V 2/\fk G k V T th/\fk G k V T el
 | .gG e th=>∃k,d=k+1/\e.src V 2/\fk G k V T th
 | .ret=>True
theorem np:fk G d V T .nil:=by cases d<;>trivial
theorem nn:fk G d V T (.eT (s::l))↔GJ G d V T s/\fk G d (V++s.decl) (T++s.decl) (.eT l):=by
 cases s with
 | set v n e=>
  cases v
  .simp only[al.eT,az.decl,GJ,L6];cases d<;>exact⟨λh=>⟨⟨h.1,h.2.1⟩,h.2.2⟩,λh=>⟨h.1.1,h.1.2,h.2⟩⟩
  .simp only[al.eT,az.decl,GJ]
   cases d<;>exact⟨λh=>⟨⟨h.1,h.2.1,h.2.2.1⟩,h.2.2.2⟩,λh=>⟨h.1.1,h.1.2.1,h.1.2.2,h.2⟩⟩
 | call g n aT=>
  exact Al
 | lock u r=>
  exact Al
 | ite e th el=>
  simp only[al.eT,az.decl,GJ,L6]
  cases d with
  | zero=>exact⟨λh=>h.elim,λ⟨⟨k,h,_⟩,_⟩=>ad⟩
  | succ d=>exact⟨λh=>⟨⟨d,rfl,h.1,h.2.1,h.2.2.1⟩,h.2.2.2⟩,λ⟨⟨k,h,ac,ax,a1⟩,aU⟩=>by
    obtain rfl:d=k:=ad
    exact⟨ac,ax,a1,aU⟩⟩
 | gG e th=>
  simp only[al.eT,az.decl,GJ,L6]
  cases d with
  | zero=>exact⟨λh=>h.elim,λ⟨⟨k,h,_⟩,_⟩=>ad⟩
  | succ d=>exact⟨λh=>⟨⟨d,rfl,h.1,h.2.1⟩,h.2.2⟩,λ⟨⟨k,h,ac,ax⟩,aU⟩=>by
    obtain rfl:d=k:=ad
    exact⟨ac,ax,aU⟩⟩
 | ret=>
  simp only[al.eT,az.decl,GJ,L6,true_and];cases d<;>exact Iff.rfl
theorem tJ{G:Env}{d:Nat}:∀{V T:Ml} {l m:List az},fk G d V T (.eT (l++m))↔fk G d V T (.eT l)/\fk G d (V++decls l) (T++decls l) (.eT m)
 | V,T,[],m=>by simp[decls,al.eT,np]
 | V,T,s::l,m=>by
  have aq:=tJ (G:=G) (d:=d) (V:=V++s.decl) (T:=T++s.decl) (l:=l) (m:=m);rw[LR,nn,nn,aq];simp only[decls,LY,LQ];exact and_assoc.symm
theorem tK:fk G d V T (.eT [s])↔GJ G d V T s:=by
 rw[nn];exact⟨λh=>h.1,λh=>⟨h,np⟩⟩
theorem dN{V aY:Ml}(h:V ⊆ aY):∀(d:Nat) (x:VE),x.src V d->x.src aY d
 | d,.num _,hx=>by cases d<;>exact hx
 | d,.ha s,hx=>by
  have g:s∈V:=by cases d<;>exact hx
  have:=h g
  cases d<;>exact this
 | d,.loc _,hx=>by cases d<;>exact hx.elim
 | d,.iK _,hx=>by cases d<;>exact hx.elim
 | 0,.un _ _,hx=>hx.elim
 | 0,.bin _ _ _,hx=>hx.elim
 | d+1,.un _ x,hx=>⟨hx.1,dN h d x hx.2⟩
 | d+1,.bin _ x y,hx=>⟨hx.1,dN h d x hx.2.1,dN h d y hx.2.2⟩
theorem k6{aY:Ml}(h:V ⊆ aY){r:eW}(a9:su G V r):su G aY r:=by
 rcases a9 with⟨m,hm,hn,ac,ax⟩|hp
 .exact .inl ⟨m,hm,hn,λhs=>by obtain⟨e,he,aw⟩:=ac hs;exact⟨e,he,dN h 2 e aw⟩,ax⟩
 .exact .inr hp
theorem oc{G:Env}{V aY:Ml}(h:V ⊆ aY):∀(ps:List (ByteArray×Bool)) (aT:List dj),iX G V ps aT->iX G aY ps aT
 | [],[],_=>trivial
 | p::ps,a::aT,br=>by
  refine⟨?_,oc h ps aT br.2⟩
  cases a with
  | mx r=>exact⟨br.1.1,k6 h br.1.2⟩
  | ex e=>exact⟨br.1.1,dN h 2 e br.1.2⟩
 | [],_::_,br=>br.elim
 | _::_,[],br=>br.elim
theorem E7{aY:Ml}(h:V ⊆ aY)(m:Ml):V++m ⊆ aY++m:=λx hx=>by
 rcases LL.1 hx with hx|hx
 .exact LL.2 (.inl (h hx))
 .exact LL.2 (.inr hx)
theorem wc{A a7:Ml}(h:∀x∈A,x∈a7->x∈T):∀x∈A,x∈a7++[n]->x∈T++[n]:=λx hx hm=>by
 rcases LL.1 hm with hm|hm
 .exact LL.2 (.inl (h x hx hm))
 .exact LL.2 (.inr hm)
theorem di{G:Env}:∀(b:al) (d a:Nat) (V aY T a7:Ml),V ⊆ aY->(∀n∈b.all,n∈a7->n∈T)->d<=a->fk G d V T b->fk G a aY a7 b
 | .nil,d,a,V,aY,T,a7,hV,hT,hd,h=>np
 | .set true n e rest,d,a,V,aY,T,a7,hV,hT,hd,h=>by
  have q:bF n.data.toList=true/\n∉T/\e.src V 2/\fk G d (V++[n]) (T++[n]) rest:=by cases d<;>exact h
  have aq:=di rest d a (V++[n]) (aY++[n]) (T++[n]) (a7++[n]) (E7 hV _) (wc λx hx=>hT x (by simp[al.all,hx])) hd q.2.2.2;have r:bF n.data.toList=true/\n∉a7/\e.src aY 2/\fk G a (aY++[n]) (a7++[n]) rest:=⟨q.1,λhm=>q.2.1 (hT n (by simp[al.all]) hm),dN hV 2 e q.2.2.1,aq⟩
  cases a<;>exact r
 | .set false n e rest,d,a,V,aY,T,a7,hV,hT,hd,h=>by
  have q:n∈V/\e.src V 2/\fk G d V T rest:=by cases d<;>exact h
  have aq:=di rest d a V aY T a7 hV (λx hx=>hT x (by simp[al.all,hx])) hd q.2.2;have r:n∈aY/\e.src aY 2/\fk G a aY a7 rest:=⟨hV q.1,dN hV 2 e q.2.1,aq⟩
  cases a<;>exact r
 | .call g n aT rest,d,a,V,aY,T,a7,hV,hT,hd,h=>by
  have q:(∃ps,(n,ps)∈G.funcs/\iX G V ps aT)/\fk G d V T rest:=by cases d<;>exact h
  have aq:=di rest d a V aY T a7 hV (λx hx=>hT x (by simp[al.all,hx])) hd q.2;obtain⟨ps,cl,aG⟩:=q.1;have r:(∃ps,(n,ps)∈G.funcs/\iX G aY ps aT)/\fk G a aY a7 rest:=⟨⟨ps,cl,oc hV ps aT aG⟩,aq⟩
  cases a<;>exact r
 | .lock u r rest,d,a,V,aY,T,a7,hV,hT,hd,h=>by
  have q:su G V r/\fk G d V T rest:=by cases d<;>exact h
  have aq:=di rest d a V aY T a7 hV (λx hx=>hT x (by simp[al.all,hx])) hd q.2;have r:su G aY r/\fk G a aY a7 rest:=⟨k6 hV q.1,aq⟩
  cases a<;>exact r
 | .ite e th el rest,0,a,V,aY,T,a7,hV,hT,hd,h=>h.elim
 | .gG e th rest,0,a,V,aY,T,a7,hV,hT,hd,h=>h.elim
 | .ite e th el rest,d+1,0,V,aY,T,a7,hV,hT,hd,h=>ad
 | .gG e th rest,d+1,0,V,aY,T,a7,hV,hT,hd,h=>ad
 | .ite e th el rest,d+1,a+1,V,aY,T,a7,hV,hT,hd,h=>
  ⟨dN hV 2 e h.1,di th d a V aY T a7 hV (λx hx=>hT x (by simp[al.all,hx])) ad h.2.1,
   di el d a V aY T a7 hV (λx hx=>hT x (by simp[al.all,hx])) ad h.2.2.1,di rest (d+1) (a+1) V aY T a7 hV (λx hx=>hT x (by simp[al.all,hx])) hd h.2.2.2⟩
 | .gG e th rest,d+1,a+1,V,aY,T,a7,hV,hT,hd,h=>
  ⟨dN hV 2 e h.1,di th d a V aY T a7 hV (λx hx=>hT x (by simp[al.all,hx])) ad h.2.1,di rest (d+1) (a+1) V aY T a7 hV (λx hx=>hT x (by simp[al.all,hx])) hd h.2.2⟩
 | .ret rest,d,a,V,aY,T,a7,hV,hT,hd,h=>by
  have q:fk G d V T rest:=by cases d<;>exact h
  have aq:=di rest d a V aY T a7 hV (λx hx=>hT x (by simpa[al.all] using hx)) hd q;cases a<;>exact aq
def hE(k:Nat):ByteArray:=⟨#[118,UInt8.ofNat (97+k % 26),UInt8.ofNat (97+k / 26 % 26)]⟩
theorem zz{j:Nat}(bi:j<26)(aj:k<26)(h:hE j=hE k):j=k:=by
 unfold hE at h;rw[ByteArray.ext_iff] at h;have ax:=congrArg (λa:Array UInt8=>a[1]!) h;have a1:(UInt8.ofNat (97+j % 26)).toNat=(UInt8.ofNat (97+k % 26)).toNat:=congrArg UInt8.toNat ax;simp at a1;omega
theorem Fh(aj:k<26):bF (hE k).data.toList=true:=by
 have:∀k:Fin 26,bF (hE k.val).data.toList=true:=by decide
 exact this ⟨k,aj⟩
structure Made(G:Env)(d:Nat)(V T:Ml)(L R:Nat)(l:List az):Prop where
 wf:fk G d V T (.eT l)
 all:∀n∈(al.eT l).all,∃k,R<=k/\k<L/\n=hE k
 num:(al.eT l).num<=2*(L - R)
 le:R<=L
theorem Made.nil(G:Env)(d:Nat)(V T:Ml)(L:Nat):Made G d V T L L []:=⟨np,λn h=>by simp[al.eT,al.all] at h,by simp[al.eT,al.num],Lz _⟩
def mG(T:Ml)(L:Nat):Prop:=∀k,k<L->hE k∉T
theorem Made.free{R:Nat}(h:Made G d V T L R l)(bw:L<=26)(J:mG T L):mG (T++decls l) R:=λk aj hm=>by
 rcases LL.1 hm with hm|hm
 .exact J k (aB h.le) hm
 .obtain⟨j,ac,ax,a1⟩:=h.all _ (yR l hm);have:=zz ad ad a1;omega
theorem Made.snoc{a9 a6:Nat}(h:Made G d V T L a9 l){m:List az}(hm:fk G d (V++decls l) (T++decls l) (.eT m))(br:∀n∈(al.eT m).all,∃k,a6<=k/\k<a9/\n=hE k)
  (hn:(al.eT m).num<=2*(a9 - a6)) (hle:a6<=a9):Made G d V T L a6 (l++m):=by
 refine⟨tJ.2 ⟨h.wf,hm⟩,λn hn=>?_,?_,LU hle h.le⟩
 .rw[xW] at hn;rcases LL.1 hn with hn|hn
  .obtain⟨k,ac,ax,a1⟩:=h.all n hn;exact⟨k,ad,ax,a1⟩
  .obtain⟨k,ac,ax,a1⟩:=br n hn;exact⟨k,ac,by have:=h.le;omega,a1⟩
 .rw[yj];have ac:=h.num;have ax:=h.le;omega
def dT(i:Nat):ByteArray:=⟨#[103,UInt8.ofNat (48+i)]⟩
def iM(i:Nat):ByteArray:=⟨#[UInt8.ofNat (97+i)]⟩
def jI(i:Nat):ByteArray:=if i=0 then iN else ⟨#[102,UInt8.ofNat (48+i)]⟩
def uK(i:Nat):ByteArray:=⟨#[112,UInt8.ofNat (48+i)]⟩
def fh:Nat->List ByteArray
 | 0=>[]
 | n+1=>uK (n+1)::fh n
def xk(ng nm nf:Nat):List ByteArray:=(List.range ng).map dT++(List.range nm).map iM++(List.range nf).map jI
def ox:List ByteArray:=xk 2 4 4++fh 2
theorem qk:ox.Nodup:=by
 have h:(ox.map λs=>s.data.toList).Nodup:=by decide
 exact(List.pairwise_map.1 h).imp λbl e=>bl (by rw[e])
theorem s6:∀s∈ox,bF s.data.toList=true:=by decide
theorem y0:mG ox 26:=by
 have h:∀k:Fin 26,(hE k.val).data.toList∉ox.map λs=>s.data.toList:=by decide
 intro k aj hm;exact h ⟨k,aj⟩ (L5.2 ⟨_,hm,rfl⟩)
theorem wU{n:Nat}(h:n<=2):(fh n).Sublist (fh 2):=by
 obtain rfl|rfl|rfl:n=0\/n=1\/n=2:=ad
 .exact List.nil_sublist _
 .exact List.Sublist.cons _ (List.Sublist.refl _)
 .exact List.Sublist.refl _
theorem Fb{ng nm nf n:Nat}(ac:ng<=2)(ax:nm<=4)(a1:nf<=4)(aU:n<=2):(xk ng nm nf++fh n).Sublist ox:=by
 unfold ox xk;refine List.Sublist.append (List.Sublist.append (List.Sublist.append ?_ ?_) ?_) (wU aU)
 .exact(List.range_sublist.2 ac).map _
 .exact(List.range_sublist.2 ax).map _
 .exact(List.range_sublist.2 a1).map _
theorem nO{α:Type}{f:α->ByteArray}{h:Nat->ByteArray}{l:List α}(hl:∀i x,l[i]?=some x->f x=h i):l.map f=(List.range l.length).map h:=by
 apply List.ext_getElem?
 intro i;rw[List.getElem?_map,List.getElem?_map];by_cases al:i<l.length
 .have hx:l[i]?=some l[i]:=List.getElem?_eq_getElem al;rw[hx,List.getElem?_range al];simp[hl i _ hx]
 .rw[List.getElem?_eq_none ad,List.getElem?_eq_none (by simp;omega)];rfl
structure gL(p:bM):Prop where
 ng:p.globals.length<=2
 nm:1<=p.af.length/\p.af.length<=4
 nf:1<=p.funcs.length/\p.funcs.length<=4
 gs:∀i g,p.globals[i]?=some g->g.1=dT i∧-2<=g.2/\g.2<=2
 ms:∀i m,p.af[i]?=some m->m.name=iM i/\0<=m.size/\m.size<=3/\(m.re=true->m.size=0)
 fs:∀i f,p.funcs[i]?=some f->f.name=jI i/\(∃n,n<=2/\f.params.map (·.1)=fh n)/\(i=0->f.params=[])
theorem gL.xk{p:bM}(h:gL p):bh p=xk p.globals.length p.af.length p.funcs.length:=by
 unfold bh fW YtflecliffjbleaaGreat.xk;rw[nO λi x hx=>(h.gs i x hx).1,nO λi x hx=>(h.ms i x hx).1,nO λi x hx=>(h.fs i x hx).1]
theorem gL.sub(h:gL p)(J:f∈p.funcs):(bh p++f.params.map (·.1)).Sublist ox:=by
 obtain⟨i,al⟩:=List.getElem?_of_mem J;obtain⟨n,hn,hp⟩:=(h.fs i f al).2.1;rw[h.xk,hp];exact Fb h.ng h.nm.2 h.nf.2 hn
theorem mw:∀n,(fh n).length=n
 | 0=>rfl
 | n+1=>by simp[fh,mw n]
theorem gL.jf(h:gL p)(J:f∈p.funcs):f.params.length<=2:=by
 obtain⟨i,al⟩:=List.getElem?_of_mem J;obtain⟨n,hn,hp⟩:=(h.fs i f al).2.1;have:=congrArg List.length hp;rw[LG,mw] at this;omega
theorem gL.free(h:gL p)(J:f∈p.funcs):mG (bh p++f.params.map (·.1)) 26:=λk aj hm=>y0 k aj ((h.sub J).subset hm)
theorem gL.Kr(h:gL p):∃f,p.funcs[0]?=some f/\f.name=iN/\f.params=[]:=by
 have:0<p.funcs.length:=h.nf.1;have hx:p.funcs[0]?=some p.funcs[0]:=List.getElem?_eq_getElem this;exact⟨_,hx,(h.fs 0 _ hx).1,(h.fs 0 _ hx).2.2 rfl⟩
theorem gL.env(h:gL p)(J:f∈p.funcs):og (gN p f):=by
 have aj:∀{f:aG},f∈p.funcs->∀s∈bh p++f.params.map (·.1),bF s.data.toList=true:=λJ s hs=>s6 s ((h.sub J).subset hs);refine⟨λm hm=>aj J _ ?_,λq bv=>aj J _ ?_,λg aY=>?_⟩
 .simp only[bh,LL,L5];exact .inl (.inl (.inr ⟨m,hm,rfl⟩))
 .simp only[LL,L5];exact .inr ⟨q,bv,rfl⟩
 .obtain⟨k,cK,rfl⟩:=L5.1 aY;refine⟨aj cK _ ?_,h.jf cK⟩;simp only[bh,LL,L5];exact .inl (.inr ⟨k,cK,rfl⟩)
theorem gL.vars(h:gL p)(J:f∈p.funcs):dM (fW p++cC f.params):=λs hs=>by
 refine s6 s ((h.sub J).subset ?_);rcases LL.1 hs with hs|hs
 .exact LL.2 (.inl (by simp only[bh,LL];exact .inl (.inl hs)))
 .obtain⟨q,bv,rfl⟩:=L5.1 hs;exact LL.2 (.inr (L5.2 ⟨q,(List.mem_filter.1 bv).1,rfl⟩))
theorem gL.wf(h:gL p)(O:∀f∈p.funcs,fk (gN p f) 4 (fW p++cC f.params) (bh p++f.params.map (·.1)) f.body)(hn:(p.funcs.map λf=>f.body.num).sum<=64):pB p:=by
 obtain⟨f0,h0,b,a⟩:=h.Kr;have bN:=LF h0;have hs:=h.sub bN;rw[a] at hs;simp only[L4,L6] at hs;refine⟨λs hm=>s6 s (hs.subset hm),hs.nodup qk,by have:=h.ng;omega,by have:=h.nm;omega,by have:=h.nf;omega,λg aY=>?_,λm hm=>?_,λf J=>?_,⟨0,f0,h0,b,a⟩,hn⟩
 .obtain⟨i,al⟩:=List.getElem?_of_mem aY;have:=(h.gs i g al).2;omega
 .obtain⟨i,al⟩:=List.getElem?_of_mem hm;have:=(h.ms i m al).2;exact⟨this.1,ad,this.2.2⟩
 .refine⟨(h.env J).params,h.jf J,(h.sub J).nodup qk,O f J⟩
theorem pd(g:ByteArray×Int):(iI g).sz=2:=rfl
theorem mQ{g:ByteArray×Int}:(iI g).rep w P cs↔cs=[.string g.1,.int .i64 g.2]:=by
 unfold iI;rw[bJ,ct];exact DJ
theorem uh(g:ByteArray×Bool):(cz g).sz=2:=rfl
theorem rS{g:ByteArray×Bool}:(cz g).rep w P cs↔cs=[.string g.1,.bool g.2]:=by
 exact Hi
theorem qa(f:aG):(dy f).sz=3:=rfl
theorem kJ(h:(dy f).rep w P cs):∃A n c B m d,cs=[.string f.name,.slice A n c,.slice B m d]/\Sl w P A n (f.params.map cz)/\Sl w P B m (c7 f.body):=by
 unfold dy at h;rw[bJ,ct] at h;obtain⟨y,rfl,h⟩:=h;obtain⟨A,n,c,cm,rfl,_,ac,h⟩:=aL.1 h;obtain⟨B,m,d,bv,rfl,_,ax,h⟩:=aL.1 h;rw[aQ] at h;subst h;exact⟨_,_,_,_,_,_,rfl,ac,ax⟩
theorem s4(m:bL):(eC m).sz=3:=rfl
theorem jn(n:Int):lX n=aV (h3 n):=rfl
structure hP(w:World)(P:Nat->Prop)(p:bM)(GA:Mk)(gn:Nat)(MA:Mk)(mn:Nat)(FA:Mk)(fn:Nat):Prop where
 g:Sl w P GA gn (p.globals.map iI)
 m:Sl w P MA mn (p.af.map eC)
 f:Sl w P FA fn (p.funcs.map dy)
theorem pq(s:ByteArray):s.size=s.data.toList.length:=rfl
theorem w2(l:List (ByteArray×Bool))(k:Nat):(hz (l.take k)).length<=(hz (l.take (k+1))).length:=by
 cases h:l[k]? with
 | none=>rw[LK (i:=k+1) (by have:=List.getElem?_eq_none_iff.1 h;omega),LK (List.getElem?_eq_none_iff.1 h)];exact Lz _
 | some a=>rw[qO h];simp
theorem qN(l:List (ByteArray×Bool)):∀j k:Nat,(hz (l.take k)).length<=(hz (l.take (k+j))).length
 | 0,k=>Lz _
 | j+1,k=>LU (qN l j k) (w2 l (k+j))
theorem uP(l:List (ByteArray×Bool))(k:Nat):(hz (l.take k)).length<=(hz l).length:=by
 by_cases h:k<=l.length
 .have:=qN l (l.length - k) k;rw[show k+(l.length - k)=l.length by omega,List.take_length] at this;exact this
 .rw[LK ad];exact Lz _
structure xE(p:bM):Prop where
 inits:∀g∈p.globals,-9223372036854775808<=g.2/\g.2<=9223372036854775807
 gO:∀m∈p.af,m.size<=9223372036854775807
 src:∀f∈p.funcs,n7 f.body/\f.body.num<=900000/\f.params.length<=1000
 len:(aV (fQ p)).length<=262144
 jf:p.globals.length<=1000/\p.af.length<=1000/\p.funcs.length<=1000
theorem za(b:al)(h:n7 b):hO b:=(Kq wI b h).1
namespace C9
theorem Bk{p:Prop}(h:p:=by
 generalize H:strOf (GT++(aw++fA ku (p.funcs.take k)))=pre at *;have y:=ae H.symm;clear H;go_wp2;have bP:(((pre++(⟨#[102,117,110,99,32]⟩:ByteArray))++f.name)++(⟨#[40]⟩:ByteArray)).size<=600000:=by
  have cq:(⟨#[102,117,110,99,32]⟩:ByteArray).size=5:=rfl;have e1:(⟨#[40]⟩:ByteArray).size=1:=rfl;simp only[ByteArray.size_append];omega
 generalize u:((pre++(⟨#[102,117,110,99,32]⟩:ByteArray))++f.name)++(⟨#[40]⟩:ByteArray)=au at *;have M:=ae u.symm;clear u a0 ak af aG E;go_loopw [3,9] (λsv bR bp=>∃j:Nat,j<=pn/\bR=.int .i64 j/\sv=.string (au++strOf (hz (f.params.take j)))/\Ext w bp/\ao bp w.heap.size 70 #[.slice GA gn gc,.slice MA mn mc,.slice (some ⟨b,o,none⟩) fn fc]/\Ext V bp) (λ_ bR _=>pn - (intOf bR).toNat)
 case atStart=>
  refine⟨0,ad,rfl,?_,bu.o,G.o,Mg⟩;have:strOf (hz (f.params.take 0))=⟨#[]⟩:=rfl;rw[this];congr 1
  rw[ByteArray.ext_iff];simp
 case round=>
  obtain⟨j,bi,rfl,rfl,aF,aS,hV⟩:=hrel;obtain⟨X,v,ai⟩:=eS aF aS hV;obtain⟨a0,ak,af⟩:=(bW.aj hV).two;have aD:(strOf (hz (f.params.take j))).size<=262144:=by
   rw[aM];exact LU (uP f.params j) aq.o
  by_cases aa:j<pn
  .obtain⟨pb,gW,q,cs,rfl,dT,am,bx,bq,Z⟩:=(gS.on (Fr.ext hV)).g9 uh aa;obtain rfl:=rS.1 bx;have c0:=Z 0 _ rfl;have c1:=Z 1 _ rfl;simp only[LM] at c0;have N:pb<_:=dT;obtain⟨b8,qm⟩:=q;have dx:=qO am;have Y:b8.size<=262144:=by
    have ac:=uP f.params (j+1);have ax:=aq.o;rw[dx] at ac;simp only[LD] at ac;rw[pq];omega
   simp only at dx c0 c1 Y;have an:=ae dx;clear aF aS hV bq Z am bx dT dx;by_cases h0:0<j
   .have q1:decide ((j:Int) > 0)=true:=by simp;omega
    cases qm
    all_goals
     go_wp2;go_roundw
     case rel=>
      refine⟨j+1,ad,by go_num,?_,X.o,v.o,ai.o⟩;rw[an.o,if_pos h0];congr 1
      simp only[show (⟨#[44,32]⟩:ByteArray)=strOf [44,32] from rfl,show (⟨#[109,117,116,101,120,32]⟩:ByteArray)=strOf [109,117,116,101,120,32] from rfl];exact Af
     case measure=>exact aE
   .have q1:decide ((j:Int) > 0)=false:=by simp;omega
    cases qm
    all_goals
     go_wp2;go_roundw
     case rel=>
      refine⟨j+1,ad,by go_num,?_,X.o,v.o,ai.o⟩;rw[an.o,if_neg h0];congr 1
      try simp only[show (⟨#[109,117,116,101,120,32]⟩:ByteArray)=strOf [109,117,116,101,120,32] from rfl]
      exact Af
     case measure=>exact aE
  .obtain rfl:pn=j:=ad;have ay:=ae (show hz (f.params.take pn)=hz f.params by rw[<-P.o,List.take_length]);rw[ay.o] at aD ⊢;clear aF aS hV aa;go_wp2_with(fail);refine((show hO f.body from al.1) 1 fD bn bc _ (aB al.2) (dk.on (Fr.ext ai.o)) R.o).mono ?_;rintro e hW ⟨rfl,Q⟩;have eD:=ae (X.trans Q);have U:=ae (v.aj Q);clear Q a0 ak af;go_wp2;go_roundw
   case rel=>
    refine⟨k+1,ad,by go_num,?_,eD.o,U.o⟩;obtain⟨cW,a6⟩:=i.o;rw[M.o,y.o,cW,a6];congr 1
    simp only[show (⟨#[102,117,110,99,32]⟩:ByteArray)=strOf [102,117,110,99,32] from rfl,show (⟨#[40]⟩:ByteArray)=strOf [40] from rfl,show (⟨#[41,32,123,10]⟩:ByteArray)=strOf [41,32,123,10] from rfl,show (⟨#[125,10]⟩:ByteArray)=strOf [125,10] from rfl];conv=>lhs;rw[<-df f.name]
    simp only[ag];simp
   case measure=>exact aE
 ):p:=h
theorem vT{p:Prop}(h:p:=by
 have hlen:=hp.len;have cP:gn<=1000:=by have:=hp.jf;omega
 have cH:mn<=1000:=by have:=hp.jf;omega
 have dG:fn<=1000:=by have:=hp.jf;omega
 rw[sb] at hlen;simp only[LD] at hlen;rw[sb];obtain⟨cj,I,eV,bT⟩:=jc hp aY hm J;have b2:=aA dq lm lf;have F:=ae hlen;clear h aY hm J dq lm lf hlen hp;go_enter func110,ntmps110;go_wp2;generalize bd:World.alloc _ _=W;have aF:=aZ bd;have aS:=aN bd;clear bd;obtain⟨bj,bH⟩:=aH aF aS;clear aF aS;go_loopw [3,4] (λsv L wr=>∃k:Nat,k<=gn/\L=.int .i64 k/\sv=.string (strOf (fA h8 (p.globals.take k)))/\Ext w wr/\ao wr w.heap.size 70 #[.slice GA gn gc,.slice MA mn mc,.slice FA fn fc]) (λ_ L _=>gn - (intOf L).toNat)
 case atStart=>exact⟨0,ad,rfl,rfl,bj.o,bH.o⟩
 case round=>
  obtain⟨k,aj,rfl,rfl,aF,aS⟩:=hrel;clear bj bH;obtain⟨bj,bH⟩:=aH aF aS;obtain⟨a0,ak,af⟩:=aS.two;have aG:(strOf (fA h8 (p.globals.take k))).size<=262144:=by
   rw[aM];have ac:=k9 h8 p.globals k;have ax:=F.o;omega
  by_cases ap:k<gn
  .obtain⟨b,o,g,cs,rfl,O,r,aQ,bq,Z⟩:=(I.on (Fr.ext aF)).g9 pd ap;obtain rfl:=mQ.1 aQ;have c0:=Z 0 _ rfl;have c1:=Z 1 _ rfl;simp only[LM] at c0;have a4:b<wr.heap.size:=O;obtain⟨nm,z⟩:=g;have a9:=cj.inits _ (LF r);have cW:=nA (f:=h8) r;have a6:=Ei (nm,z);have hle:=k9 h8 p.globals (k+1);have l:(fA h8 (p.globals.take (k+1))).length<=262144:=by have:=F.o;omega
   rw[cW,a6] at l;simp only[LD] at l;have E:nm.size<=262144:=by rw[pq];omega
   simp only at a9 a6 c0 c1 E;by_cases h0:z=0
   .subst h0;have S:=ae (show ((strOf (fA h8 (p.globals.take k))++(⟨#[118,97,114,32]⟩:ByteArray))++nm)++(⟨#[59,10]⟩:ByteArray)=strOf (fA h8 (p.globals.take (k+1))) by
     rw[cW,a6,show (⟨#[118,97,114,32]⟩:ByteArray)=strOf [118,97,114,32] from rfl,show (⟨#[59,10]⟩:ByteArray)=strOf [59,10] from rfl];conv=>lhs;rw[<-df nm]
     rw[ag,ag,ag];simp)
    clear aF aS r aQ bq Z cW a6 hle l a9 O;go_wp2;go_roundw
    case rel=>exact⟨k+1,ad,by go_num,by rw[<-S.o],bj.o,bH.o⟩
    case measure=>exact aE
   .have q1:(z != 0)=true:=by simpa using h0
    have cO:(z == 0)=false:=by simpa using h0
    rw[if_neg h0] at a6 l;simp only[LD] at l;have s:(strOf (lX z)).size<=262144:=by rw[aM,jn];omega
    have S:=ae (show ((((strOf (fA h8 (p.globals.take k))++(⟨#[118,97,114,32]⟩:ByteArray))++nm)++(⟨#[32,61,32]⟩:ByteArray))++strOf (lX z))++(⟨#[59,10]⟩:ByteArray)=strOf (fA h8 (p.globals.take (k+1))) by
     rw[cW,a6,show (⟨#[118,97,114,32]⟩:ByteArray)=strOf [118,97,114,32] from rfl,show (⟨#[59,10]⟩:ByteArray)=strOf [59,10] from rfl,show (⟨#[32,61,32]⟩:ByteArray)=strOf [32,61,32] from rfl,jn];conv=>lhs;rw[<-df nm]
     rw[ag,ag,ag,ag,ag];simp)
    clear aF aS r aQ bq Z cW a6 hle l O h0;go_wp2_with(fail);refine(mr z _ a9).mono ?_;rintro e aP ⟨rfl,ar⟩;have bu:=ae (bj.trans (Fr.of ar));have G:=ae (bH.aj (Fr.of ar));clear ar a0 ak af c0 c1;go_wp2;go_roundw
    case rel=>exact⟨k+1,ad,by go_num,by rw[<-S.o],bu.o,G.o⟩
    case measure=>exact aE
  .obtain rfl:gn=k:=ad;have n:=ae (show fA h8 (p.globals.take gn)=fA h8 p.globals by rw[<-b2.1,List.take_length]);rw[n.o] at aG ⊢;clear aF aS;generalize az:fA h8 p.globals=GT at *;go_wp2;clear a0 ak af n;go_loopw [3,5] (λsv L wr=>∃k:Nat,k<=mn/\L=.int .i64 k/\sv=.string (strOf (GT++fA kv (p.af.take k)))/\Ext w wr/\ao wr w.heap.size 70 #[.slice GA gn gc,.slice MA mn mc,.slice FA fn fc]) (λ_ L _=>mn - (intOf L).toNat)
   case atStart=>exact⟨0,ad,rfl,by simp[fA],bj.o,bH.o⟩
   case round=>
    obtain⟨k,aj,rfl,rfl,aF,aS⟩:=hrel;clear bj bH aG;obtain⟨bj,bH⟩:=aH aF aS;obtain⟨a0,ak,af⟩:=aS.two;have aG:(strOf (GT++fA kv (p.af.take k))).size<=262144:=by
     rw[aM,LD];have ac:=k9 kv p.af k;have ax:=F.o;omega
    by_cases b3:k<mn
    .obtain⟨b,o,m,cs,rfl,O,r,aQ,bq,Z⟩:=(eV.on (Fr.ext aF)).g9 s4 b3;obtain rfl:=fq.1 aQ;have c0:=Z 0 _ rfl;have c1:=Z 1 _ rfl;have c2:=Z 2 _ rfl;simp only[LM] at c0;have a4:b<wr.heap.size:=O;obtain⟨nm,re,z⟩:=m;have a9:=cj.gO _ (LF r);have cW:=nA (f:=kv) r;have a6:=Ey ⟨nm,re,z⟩;have hle:=k9 kv p.af (k+1);have l:GT.length+(fA kv (p.af.take (k+1))).length<=262144:=by have:=F.o;omega
     rw[cW,a6] at l;simp only[LD] at l;have E:nm.size<=262144:=by rw[pq];omega
     simp only at a9 a6 c0 c1 c2 E;have s:0<z->(strOf (lX z)).size<=262144:=λh0=>by
      rw[if_pos h0] at l;simp only[LD] at l;rw[aM,jn];omega
     clear bq Z hle l r aQ O aF aS;have K:=ae cW;go_upto_region 13 with(fail);generalize hV:World.alloc _ _=V;have T:=aZ hV;have bu:=ae (bj.trans T);have G:=ae (bH.aj T);have hC:=aN hV;clear hV a0 ak af c0 c1 c2 a4 bj bH T cW;obtain⟨a0,ak,af⟩:=hC.two;clear hC;cases re
     all_goals
      by_cases h0:0<z
      .rw[if_pos h0] at a6;have cV:=s h0;have q1:decide (z > 0)=true:=by simpa using h0
       have de:-9223372036854775808<=z/\z<=9223372036854775807:=ad;have i:=ae a6;clear a6 h0 s;go_wp2_with(fail);refine(mr z _ de).mono ?_;rintro e aP ⟨rfl,ar⟩;have a7:=ae (bu.trans (Fr.of ar));have b9:=ae (G.aj (Fr.of ar));clear ar a0 ak af;go_wp2;go_roundw
       case rel=>
        refine⟨k+1,ad,by go_num,?_,a7.o,b9.o⟩;rw[K.o,i.o,<-jn];congr 1
        simp only[show (⟨#[114]⟩:ByteArray)=strOf [114] from rfl,show (⟨#[109,117,116,101,120,32]⟩:ByteArray)=strOf [109,117,116,101,120,32] from rfl,show (⟨#[91]⟩:ByteArray)=strOf [91] from rfl,show (⟨#[93]⟩:ByteArray)=strOf [93] from rfl,show (⟨#[59,10]⟩:ByteArray)=strOf [59,10] from rfl];conv=>lhs;rw[<-df nm]
        simp only[ag];simp
       case measure=>exact aE
      .rw[if_neg h0] at a6;have q1:decide (z > 0)=false:=by simp;omega
       have i:=ae a6;clear a6 h0 s a9;go_wp2;go_roundw
       case rel=>
        refine⟨k+1,ad,by go_num,?_,bu.o,G.o⟩;rw[K.o,i.o];congr 1
        simp only[show (⟨#[114]⟩:ByteArray)=strOf [114] from rfl,show (⟨#[109,117,116,101,120,32]⟩:ByteArray)=strOf [109,117,116,101,120,32] from rfl,show (⟨#[59,10]⟩:ByteArray)=strOf [59,10] from rfl];conv=>lhs;rw[<-df nm]
        simp only[ag];simp
       case measure=>exact aE
    .obtain rfl:mn=k:=ad;have n:=ae (show fA kv (p.af.take mn)=fA kv p.af by rw[<-b2.2.1,List.take_length]);rw[n.o] at aG ⊢;clear aF aS;generalize aC:fA kv p.af=aw at *;go_wp2;clear a0 ak af n;go_loopw [3,7] (λsv L wr=>∃k:Nat,k<=fn/\L=.int .i64 k/\sv=.string (strOf (GT++(aw++fA ku (p.funcs.take k))))/\Ext w wr/\ao wr w.heap.size 70 #[.slice GA gn gc,.slice MA mn mc,.slice FA fn fc]) (λ_ L _=>fn - (intOf L).toNat)
     case atStart=>exact⟨0,ad,rfl,by simp[fA],bj.o,bH.o⟩
     case round=>
      obtain⟨k,aj,rfl,rfl,aF,aS⟩:=hrel;clear bj bH aG;obtain⟨bj,bH⟩:=aH aF aS;obtain⟨a0,ak,af⟩:=aS.two;have aG:(strOf (GT++(aw++fA ku (p.funcs.take k)))).size<=262144:=by
       rw[aM,LD,LD];have ac:=k9 ku p.funcs k;have ax:=F.o;omega
      by_cases bm:k<fn
      .obtain⟨b,o,f,cs,rfl,O,r,aQ,bq,Z⟩:=(bT.on (Fr.ext aF)).g9 qa bm;obtain⟨PA,pn,pc,fD,bn,bc,rfl,cl,bt⟩:=kJ aQ;have c0:=Z 0 _ rfl;have c1:=Z 1 _ rfl;have c2:=Z 2 _ rfl;simp only[LM] at c0;have a4:b<wr.heap.size:=O;have a9:=cj.src _ (LF r);have cW:=nA (f:=ku) r;have a6:=Ea f;have hle:=k9 ku p.funcs (k+1);have l:GT.length+(aw.length+(fA ku (p.funcs.take (k+1))).length)<=262144:=by have:=F.o;omega
       rw[cW,a6] at l;simp only[LD] at l;have E:f.name.size<=262144:=by rw[pq];omega
       have be:(hz f.params).length<=262144:=ad;have bG:(cF 1 f.body).length<=262144:=ad;have bk:f.params.length=pn:=by rw[<-cl.1,LG]
       have gT:pn<=1000:=ad;obtain⟨aq,R,P⟩:=eS be bG bk;have al:=ah (za f.body a9.1) a9.2.1;have aI:(strOf (cF 1 f.body)).size<=262144:=by rw[aM];exact bG
       have i:=ah cW a6;clear bq Z hle l r aQ O aF aS cW a6 a9 be bG bk;go_upto_region 23 with(fail);exact Bj
      .obtain rfl:fn=k:=ad;have n:=ae (show fA ku (p.funcs.take fn)=fA ku p.funcs by rw[<-b2.2.2,List.take_length]);rw[n.o];clear aF aS;go_wp2;go_ret;exact⟨ret_str (by rw[<-az,<-aC]),bj.o⟩
 ):p:=h
end C9
open C9 in
theorem uN(p:bM)(hp:xE p)(GA:Mk)(gn gc:Nat)(MA:Mk)(mn mc:Nat)(FA:Mk)(fn fc:Nat)(w:World)(h:hP w (av w) p GA gn MA mn FA fn) :
  Calls prog 110 #[.agg #[.slice GA gn gc,.slice MA mn mc,.slice FA fn fc]] w λe ab=>e=.returned (.string (strOf (aV (fQ p))))/\Ext w ab:=by
 exact vS
theorem F5{l:List UInt8}(h:(ez l).2.2=0):l.length<=262144:=by
 unfold ez at h;split at h
 .simp at h
 .omega
theorem pB.print(hp:pB p):xE p where
 inits:=λg aY=>by have:=hp.inits g aY;omega
 gO:=λm hm=>by have:=hp.gO m hm;omega
 src:=λf J=>⟨jw _ 4 (ky (hp.env J) f.body 4 _ _ (hp.vars J) (hp.funcs f J).body),by
  have ac:f.body.num<=(p.funcs.map λf=>f.body.num).sum:=jx (λf:aG=>f.body.num) J;have:=hp.jf;omega,by have:=(hp.funcs f J).jf;omega⟩
 len:=F5 (uM hp)
 jf:=by
  have:=hp.qA;have:=hp.zh;have:=hp.F9;omega
theorem GF(w:World)(s:ByteArray)(cap:Nat)(hc:s.size<=cap)(hs:s.size<=1000000)(e:TypeId)(sp:Nat×Nat):fw (w.alloc (.cells (bytesRow s cap) e sp)) w.heap.size 0 cap s:=by
 refine⟨λi al=>?_,by simp,hc,hs⟩;rw[LW,cell_of_row _ _ i _ e sp (heap_alloc_new w _)];unfold bytesRow;rw[Array.getElem?_append_left (by simpa using al)];simp only[Array.getElem?_map];rw[Array.getElem?_eq_getElem (by simpa using al)];rfl
namespace Dg
theorem Bk{p:Prop}(h:p:=by
 go_wp2_with(fail);refine(hq f.name _ U).mono ?_;rintro e aP ⟨rfl,ar⟩;rw[i.o];have a7:=ae (bu.trans ar);have b9:=ae (G.aj ar);have c7:=ae (bW.aj ar);have l:=ae ar;clear ar a0 ak af;obtain⟨a0,ak,af⟩:=c7.two;go_wp2_with(fail);refine((show GN f.body from uJ f.body) 4 0 _ _ _ _ ac.o (aB fH.o) ad (dk.on (Fr.ext l.o))).mono ?_;rintro e aW ⟨rfl,bL⟩;have ba:=ae (a7.trans bL);have a3:=ae (b9.aj bL);have s:=ae (c7.aj bL);have ah:=ae (l.trans bL);clear bL a0 ak af;obtain⟨a0,ak,af⟩:=s.two;go_wp2;clear a0 ak af;go_loopw [8] (λbR bp=>∃j:Nat,j<=pn/\bR=.int .i64 j/\Ext w bp/\ao bp w.heap.size 70 #[.slice GA gn gc,.slice MA mn mc,.slice (some ⟨b,o,none⟩) fn fc]/\Ext V bp) (λbR _=>pn - (intOf bR).toNat)
 case atStart=>exact⟨0,ad,rfl,ba.o,a3.o,ah.o⟩
 case round=>
  obtain⟨j,bi,rfl,aF,aS,hV⟩:=hrel;obtain⟨X,v,ai⟩:=eS aF aS hV;obtain⟨a0,ak,af⟩:=(bW.aj hV).two;by_cases aa:j<pn
  .obtain⟨pb,gW,q,cs,rfl,dT,am,bx,bq,Z⟩:=(gS.on (Fr.ext hV)).g9 uh aa;obtain rfl:=rS.1 bx;have c0:=Z 0 _ rfl;have c1:=Z 1 _ rfl;simp only[LM] at c0;have N:pb<_:=dT;have Y:=y.params _ (LF am);obtain⟨b8,qm⟩:=q;simp only at Y c0 c1;have ag:=ae (show jN b8=true from Y);have ax:=iu Y;clear aF aS hV bq Z am bx dT Y;go_wp2_with(fail);refine(hq b8 _ ax).mono ?_;rintro e cI ⟨rfl,dr⟩;rw[ag.o];have F:=ae (X.trans dr);have aw:=ae (v.aj dr);have aq:=ae (ai.trans dr);clear dr a0 ak af c0 c1 N;go_wp2;go_roundw
   case rel=>exact⟨j+1,ad,by go_num,F.o,aw.o,aq.o⟩
   case measure=>exact aE
  .obtain rfl:pn=j:=ad;clear aF aS hV aa;go_wp2;go_roundw
   case rel=>exact⟨k+1,ad,by go_num,X.o,v.o⟩
   case measure=>exact aE
 ):p:=h
theorem sP{p:Prop}(h:p:=by
 obtain⟨cj,I,eV,bT,Q⟩:=DG hp aY hm J hp.names;clear h aY hm J dq lm lf hp;go_enter func68,ntmps68;go_upto_region 1 with(fail);generalize bd:World.alloc _ _=W;have aF:=aZ bd;have aS:=aN bd;clear bd;obtain⟨bj,bH⟩:=aH aF aS;obtain⟨a0,ak,af⟩:=aS.two;clear aF aS;go_wp2;clear a0 ak af;go_loopw [3] (λL wr=>∃k:Nat,k<=gn/\L=.int .i64 k/\Ext w wr/\ao wr w.heap.size 70 #[.slice GA gn gc,.slice MA mn mc,.slice FA fn fc]) (λL _=>gn - (intOf L).toNat)
 case atStart=>exact⟨0,ad,rfl,bj.o,bH.o⟩
 case round=>
  obtain⟨k,aj,rfl,aF,aS⟩:=hrel;clear bj bH;obtain⟨bj,bH⟩:=aH aF aS;obtain⟨a0,ak,af⟩:=aS.two;by_cases ap:k<gn
  .obtain⟨b,o,g,cs,rfl,O,r,aQ,bq,Z⟩:=(I.on (Fr.ext aF)).g9 pd ap;obtain rfl:=mQ.1 aQ;have c0:=Z 0 _ rfl;have c1:=Z 1 _ rfl;simp only[LM] at c0;have a4:b<_:=O;obtain⟨nm,z⟩:=g;have a9:=cj.inits _ (LF r);have R:bF nm.data.toList=true:=Q.o nm (by simp only[bh,fW,LL,L5];exact .inl (.inl ⟨_,LF r,rfl⟩));have i:=ae (show jN nm=true from R);have U:=iu R;simp only at a9 c0 c1;have bY:(z == -9223372036854775808)=false:=by simp;omega
   clear aF aS r aQ bq Z O R;go_wp2_with(fail);refine(hq nm _ U).mono ?_;rintro e aP ⟨rfl,ar⟩;rw[i.o];have bu:=ae (bj.trans ar);have G:=ae (bH.aj ar);have f1:=(ar.cell (j:=o+k*2+1) a4 (λh=>h)).trans c1;have bX:b<aP.heap.size:=LC a4 ar.size;clear ar a0 ak af c0 c1 a4;obtain⟨a0,ak,af⟩:=G.two;go_wp2;go_roundw
   case rel=>exact⟨k+1,ad,by go_num,bu.o,G.o⟩
   case measure=>exact aE
  .obtain rfl:gn=k:=ad;clear aF aS;go_wp2;clear a0 ak af;go_loopw [4] (λL wr=>∃k:Nat,k<=mn/\L=.int .i64 k/\Ext w wr/\ao wr w.heap.size 70 #[.slice GA gn gc,.slice MA mn mc,.slice FA fn fc]) (λL _=>mn - (intOf L).toNat)
   case atStart=>exact⟨0,ad,rfl,bj.o,bH.o⟩
   case round=>
    obtain⟨k,aj,rfl,aF,aS⟩:=hrel;clear bj bH;obtain⟨bj,bH⟩:=aH aF aS;obtain⟨a0,ak,af⟩:=aS.two;by_cases b3:k<mn
    .obtain⟨b,o,m,cs,rfl,O,r,aQ,bq,Z⟩:=(eV.on (Fr.ext aF)).g9 s4 b3;obtain rfl:=fq.1 aQ;have c0:=Z 0 _ rfl;have c1:=Z 1 _ rfl;have c2:=Z 2 _ rfl;simp only[LM] at c0;have a4:b<_:=O;obtain⟨nm,re,z⟩:=m;have a9:=cj.gO _ (LF r);have R:bF nm.data.toList=true:=Q.o nm (by simp only[bh,LL,L5];exact .inl (.inr ⟨_,LF r,rfl⟩));have i:=ae (show jN nm=true from R);have U:=iu R;simp only at a9 c0 c1 c2;have q1:decide (z<0)=false:=by simp;omega
     have cO:decide (z > 64)=false:=by simp;omega
     clear bq Z r aQ O aF aS R;go_upto_region 12 with(fail);generalize hV:World.alloc _ _=V;have T:=aZ hV;have bu:=ae (bj.trans T);have G:=ae (bH.aj T);have hC:=aN hV;have bW:=ae hC;clear hV a0 ak af c0 c1 c2 a4 bj bH T;obtain⟨a0,ak,af⟩:=hC.two;clear hC;go_wp2_with(fail);refine(hq nm _ U).mono ?_;rintro e aP ⟨rfl,ar⟩;rw[i.o];have a7:=ae (bu.trans ar);have b9:=ae (G.aj ar);have al:=bW.aj ar;clear ar a0 ak af;obtain⟨a0,ak,af⟩:=al.two;clear al
     cases re with
     | false=>
      exact He
     | true=>
      obtain rfl:z=0:=a9.2.2 rfl;exact He
    .obtain rfl:mn=k:=ad;clear aF aS;go_wp2;clear a0 ak af;go_loopw [6] (λL wr=>∃k:Nat,k<=fn/\L=.int .i64 k/\Ext w wr/\ao wr w.heap.size 70 #[.slice GA gn gc,.slice MA mn mc,.slice FA fn fc]) (λL _=>fn - (intOf L).toNat)
     case atStart=>exact⟨0,ad,rfl,bj.o,bH.o⟩
     case round=>
      obtain⟨k,aj,rfl,aF,aS⟩:=hrel;clear bj bH;obtain⟨bj,bH⟩:=aH aF aS;obtain⟨a0,ak,af⟩:=aS.two;by_cases bm:k<fn
      .obtain⟨b,o,f,cs,rfl,O,r,aQ,bq,Z⟩:=(bT.on (Fr.ext aF)).g9 qa bm;obtain⟨PA,pn,pc,fD,bn,bc,rfl,cl,bt⟩:=kJ aQ;have c0:=Z 0 _ rfl;have c1:=Z 1 _ rfl;have c2:=Z 2 _ rfl;simp only[LM] at c0;have a4:b<_:=O;have bC:=LF r;have R:bF f.name.data.toList=true:=Q.o f.name (by simp only[bh,LL,L5];exact .inr ⟨_,bC,rfl⟩);have i:=ae (show jN f.name=true from R);have U:=iu R;have bk:f.params.length=pn:=by rw[<-cl.1,LG]
       have gT:pn<=2:=by have:=(cj.funcs f bC).jf;omega
       have y:=ae (cj.funcs f bC);have ac:=ae (ky (cj.env bC) f.body 4 _ _ (cj.vars bC) (cj.funcs f bC).body);have fH:=ae (cj.print.src f bC).2.1;clear bq Z r aQ O aF aS R bk bC;go_upto_region 18 with(fail);exact Bj
      .obtain rfl:fn=k:=ad;have u:=ae (show hP _ (av _) p GA gn MA mn FA fn from ⟨I.on (Fr.ext aF),eV.on (Fr.ext aF),bT.on (Fr.ext aF)⟩);clear aF aS;go_wp2_with(fail);refine(uN p cj.print GA gn gc MA mn mc FA fn fc _ u.o).mono ?_;rintro e cA ⟨rfl,bz⟩;have F:=ae (bj.trans bz);have kc:=run_bytes_of_string (P:=prog) cA 9 78 5 (strOf (aV (fQ p))) Tryz.underlying9 Tryz.underlying78 Tryz.underlying5;have hlen:(strOf (aV (fQ p))).size<=262144:=by rw[aM];exact cj.print.len
       have K:=ae (uM cj.o);have au:(strOf (aV (fQ p))).data.toList=aV (fQ p):=by simp[strOf]
       generalize hS:strOf (aV (fQ p))=S at *;have bV:=grownCap_ge cA S.size 0 5;generalize M:grownCap cA S.size 0 5=cap at *;clear bz a0 ak af M;go_wp2_with(fail);generalize hV:World.alloc _ _=V;have hT:fw V cA.heap.size 0 cap S:=by
        rw[<-hV];exact GF cA S cap bV ad _ _
       have T:=aZ hV;have aJ:=ae (F.trans T);clear hV T kc;refine(yc S cA.heap.size 0 cap V.drew (hT.on Mg.drew) hlen).mono ?_;rintro e cL ⟨A,n,c,rfl,aK,b0,an⟩;have H:=ae (aJ.drew.trans (Fr.of an));rw[show (ez S.data.toList).2.2=0 by rw[au];exact K.o];clear b0 an hT;go_wp2;go_ret;exact⟨rfl,H.o⟩
 ):p:=h
theorem vT{p:Prop}(h:p:=by
 exact sO
 ):p:=h
end Dg
open Dg in
theorem GH(p:bM)(hp:pB p)(GA:Mk)(gn gc:Nat)(MA:Mk)(mn mc:Nat)(FA:Mk)(fn fc:Nat)(w:World)(h:hP w (av w) p GA gn MA mn FA fn) :
  Calls prog 68 #[.agg #[.slice GA gn gc,.slice MA mn mc,.slice FA fn fc]] w λe ab=>e=.returned (.bool true)/\Ext w ab:=by
 exact vS
end Go.Proofs.YtflecliffjbleaaGreat

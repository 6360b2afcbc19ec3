/- Part 13 of the proof. No condition of its own. -/
import Derived.Test.YtnhhdaggkiomoaaGreatQ07
import Derived.Test.YtnhhdaggkiomoaaGreatQ12
namespace Go.Proofs.YtnhhdaggkiomoaaGreat
open Go.RowKit Go.Proofs.Tryz
set_option maxRecDepth 1000000
set_option maxHeartbeats 25600000
set_option linter.unusedVariables false
variable{n:ByteArray}{G:Env}{T V:Lt}{cs:List Value}{l:List aA}{L d k:Nat}{P:Nat→Prop}{w:World}{s:aA}{f:aK}{p:bM}
def an.eM:List aA→an
 | []=>.nil
 | .set v n e::l=>.set v n e (eM l)
 | .call g n a1::l=>.call g n a1 (eM l)
 | .lock u r::l=>.lock u r (eM l)
 | .ite e th el::l=>.ite e th el (eM l)
 | .gv e th::l=>.gv e th (eM l)
 | .ret::l=>.ret (eM l)
theorem ua:∀l:List aA,(an.eM l).list=l
 | []=>rfl
 | s::l=>by cases s<;>simp only[an.eM,an.list,ua l]
theorem mu(l:List aA):c5 (.eM l)=l.map bg:=by rw[cF,ua]
def aA.decl:aA→List ByteArray
 | .set true n _=>[n]
 | _=>[]
def decls(l:List aA):List ByteArray:=l.flatMap aA.decl
theorem rm(l m:List aA):decls (l++m)=decls l++decls m:=List.flatMap_append
def an.all:an→List ByteArray
 | .nil=>[]
 | .set true n _ rest=>n::rest.all
 | .set false _ _ rest=>rest.all
 | .call _ _ _ rest=>rest.all
 | .lock _ _ rest=>rest.all
 | .ite _ th el rest=>th.all++el.all++rest.all
 | .gv _ th rest=>th.all++rest.all
 | .ret rest=>rest.all
def aA.all:aA→List ByteArray
 | .set true n _=>[n]
 | .ite _ th el=>th.all++el.all
 | .gv _ th=>th.all
 | _=>[]
theorem all_cons(s:aA)(l:List aA):(an.eM (s::l)).all=s.all++(an.eM l).all:=by
 cases s with
 | set v n e=>cases v<;>rfl
 | ite e th el=>simp[an.eM,an.all,aA.all]
 | gv e th=>simp[an.eM,an.all,aA.all]
 | call g n a1=>rfl
 | lock u r=>rfl
 | ret=>rfl
theorem xp(l m:List aA):(an.eM (l++m)).all=(an.eM l).all++(an.eM m).all:=by
 induction l with
 | nil=>rfl
 | cons s l ao=>rw[KV,all_cons,all_cons,ao,KU]
theorem Dr(s:aA)(h:n∈s.decl):n∈s.all:=by
 cases s with
 | set v n e=>cases v<;>simp_all [aA.decl,aA.all]
 | _=>simp[aA.decl] at h
theorem ye(l:List aA)(h:n∈decls l):n∈(an.eM l).all:=by
 induction l with
 | nil=>simp[decls] at h
 | cons s l ao=>
  rw[all_cons];unfold decls at h;rw[Lb] at h;rcases KP.1 h with h|h
  ·exact KP.2 (.inl (Dr s h))
  ·exact KP.2 (.inr (ao h))
def aA.num:aA→Nat
 | .ite _ th el=>th.num+el.num+1
 | .gv _ th=>th.num+1
 | _=>1
theorem kD(s:aA)(l:List aA):(an.eM (s::l)).num=s.num+(an.eM l).num:=by
 cases s<;>simp only[an.eM,an.num,aA.num]<;>omega
theorem xN(l m:List aA):(an.eM (l++m)).num=(an.eM l).num+(an.eM m).num:=by
 induction l with
 | nil=>simp[an.eM,an.num]
 | cons s l ao=>rw[KV,kD,kD,ao,Nat.add_assoc]
theorem sX(s:aA):(an.eM [s]).num=s.num:=by rw[kD];simp[an.eM,an.num]
theorem tT(l:List aA):l.length≤(an.eM l).num:=by
 induction l with
 | nil=>simp
 | cons s l ao=>
  rw[kD];have:1≤s.num:=by cases s<;>simp[aA.num]
  simp;omega
def FT(G:Env)(d:Nat)(V T:Lt):aA→Prop
 | .set true n e=>bF n.data.toList=true∧n∉T∧e.src V 2
 | .set false n e=>n∈V∧e.src V 2
 | .call _ n a1=>∃ps,(n,ps)∈G.funcs∧iN G V ps a1
 | .lock _ r=>rX G V r
 | .ite e th el=>∃k,d=k+1∧e.src V 2∧e4 G k V T th∧e4 G k V T el
 | .gv e th=>∃k,d=k+1∧e.src V 2∧e4 G k V T th
 | .ret=>True
theorem mZ:e4 G d V T .nil:=by cases d<;>trivial
theorem mY:e4 G d V T (.eM (s::l))↔FT G d V T s∧e4 G d (V++s.decl) (T++s.decl) (.eM l):=by
 cases s with
 | set v n e=>
  cases v
  ·simp only[an.eM,aA.decl,FT,Lg];cases d<;>exact⟨fun h=>⟨⟨h.1,h.2.1⟩,h.2.2⟩,fun h=>⟨h.1.1,h.1.2,h.2⟩⟩
  ·simp only[an.eM,aA.decl,FT]
   cases d<;>exact⟨fun h=>⟨⟨h.1,h.2.1,h.2.2.1⟩,h.2.2.2⟩,fun h=>⟨h.1.1,h.1.2.1,h.1.2.2,h.2⟩⟩
 | call g n a1=>
  exact zJ
 | lock u r=>
  exact zJ
 | ite e th el=>
  simp only[an.eM,aA.decl,FT,Lg]
  cases d with
  | zero=>exact⟨fun h=>h.elim,fun⟨⟨k,h,_⟩,_⟩=>ad⟩
  | succ d=>exact⟨fun h=>⟨⟨d,rfl,h.1,h.2.1,h.2.2.1⟩,h.2.2.2⟩,fun⟨⟨k,h,ac,av,aV⟩,bz⟩=>by
    obtain rfl:d=k:=ad
    exact⟨ac,av,aV,bz⟩⟩
 | gv e th=>
  simp only[an.eM,aA.decl,FT,Lg]
  cases d with
  | zero=>exact⟨fun h=>h.elim,fun⟨⟨k,h,_⟩,_⟩=>ad⟩
  | succ d=>exact⟨fun h=>⟨⟨d,rfl,h.1,h.2.1⟩,h.2.2⟩,fun⟨⟨k,h,ac,av⟩,bz⟩=>by
    obtain rfl:d=k:=ad
    exact⟨ac,av,bz⟩⟩
 | ret=>
  simp only[an.eM,aA.decl,FT,Lg,true_and];cases d<;>exact Iff.rfl
theorem ti{G:Env}{d:Nat}:∀{V T:Lt} {l m:List aA},e4 G d V T (.eM (l++m))↔e4 G d V T (.eM l)∧e4 G d (V++decls l) (T++decls l) (.eM m)
 | V,T,[],m=>by simp[decls,an.eM,mZ]
 | V,T,s::l,m=>by
  have ao:=ti (G:=G) (d:=d) (V:=V++s.decl) (T:=T++s.decl) (l:=l) (m:=m);rw[KV,mY,mY,ao];simp only[decls,Lb,KU];exact and_assoc.symm
theorem tj:e4 G d V T (.eM [s])↔FT G d V T s:=by
 rw[mY];exact⟨fun h=>h.1,fun h=>⟨h,mZ⟩⟩
theorem dK{V aV:Lt}(h:V ⊆ aV):∀(d:Nat) (x:VE),x.src V d→x.src aV d
 | d,.num _,hx=>by cases d<;>exact hx
 | d,.g0 s,hx=>by
  have g:s∈V:=by cases d<;>exact hx
  have:=h g
  cases d<;>exact this
 | d,.loc _,hx=>by cases d<;>exact hx.elim
 | d,.iC _,hx=>by cases d<;>exact hx.elim
 | 0,.un _ _,hx=>hx.elim
 | 0,.bin _ _ _,hx=>hx.elim
 | d+1,.un _ x,hx=>⟨hx.1,dK h d x hx.2⟩
 | d+1,.bin _ x y,hx=>⟨hx.1,dK h d x hx.2.1,dK h d y hx.2.2⟩
theorem kK{aV:Lt}(h:V ⊆ aV){r:eO}(a5:rX G V r):rX G aV r:=by
 rcases a5 with⟨m,hm,hn,ac,av⟩|hp
 ·exact .inl ⟨m,hm,hn,fun hs=>by obtain⟨e,he,ay⟩:=ac hs;exact⟨e,he,dK h 2 e ay⟩,av⟩
 ·exact .inr hp
theorem nH{G:Env}{V aV:Lt}(h:V ⊆ aV):∀(ps:List (ByteArray×Bool)) (a1:List dn),iN G V ps a1→iN G aV ps a1
 | [],[],_=>trivial
 | p::ps,a::a1,bx=>by
  refine⟨?_,nH h ps a1 bx.2⟩
  cases a with
  | mx r=>exact⟨bx.1.1,kK h bx.1.2⟩
  | ex e=>exact⟨bx.1.1,dK h 2 e bx.1.2⟩
 | [],_::_,bx=>bx.elim
 | _::_,[],bx=>bx.elim
theorem Ev{aV:Lt}(h:V ⊆ aV)(m:Lt):V++m ⊆ aV++m:=fun x hx=>by
 rcases KP.1 hx with hx|hx
 ·exact KP.2 (.inl (h hx))
 ·exact KP.2 (.inr hx)
theorem vD{A a4:Lt}(h:∀x∈A,x∈a4→x∈T):∀x∈A,x∈a4++[n]→x∈T++[n]:=fun x hx hm=>by
 rcases KP.1 hm with hm|hm
 ·exact KP.2 (.inl (h x hx hm))
 ·exact KP.2 (.inr hm)
theorem dd{G:Env}:∀(b:an) (d a:Nat) (V aV T a4:Lt),V ⊆ aV→(∀n∈b.all,n∈a4→n∈T)→d≤a→e4 G d V T b→e4 G a aV a4 b
 | .nil,d,a,V,aV,T,a4,hV,hT,hd,h=>mZ
 | .set true n e rest,d,a,V,aV,T,a4,hV,hT,hd,h=>by
  have F:bF n.data.toList=true∧n∉T∧e.src V 2∧e4 G d (V++[n]) (T++[n]) rest:=by cases d<;>exact h
  have ao:=dd rest d a (V++[n]) (aV++[n]) (T++[n]) (a4++[n]) (Ev hV _) (vD fun x hx=>hT x (by simp[an.all,hx])) hd F.2.2.2;have r:bF n.data.toList=true∧n∉a4∧e.src aV 2∧e4 G a (aV++[n]) (a4++[n]) rest:=⟨F.1,fun hm=>F.2.1 (hT n (by simp[an.all]) hm),dK hV 2 e F.2.2.1,ao⟩
  cases a<;>exact r
 | .set false n e rest,d,a,V,aV,T,a4,hV,hT,hd,h=>by
  have F:n∈V∧e.src V 2∧e4 G d V T rest:=by cases d<;>exact h
  have ao:=dd rest d a V aV T a4 hV (fun x hx=>hT x (by simp[an.all,hx])) hd F.2.2;have r:n∈aV∧e.src aV 2∧e4 G a aV a4 rest:=⟨hV F.1,dK hV 2 e F.2.1,ao⟩
  cases a<;>exact r
 | .call g n a1 rest,d,a,V,aV,T,a4,hV,hT,hd,h=>by
  have F:(∃ps,(n,ps)∈G.funcs∧iN G V ps a1)∧e4 G d V T rest:=by cases d<;>exact h
  have ao:=dd rest d a V aV T a4 hV (fun x hx=>hT x (by simp[an.all,hx])) hd F.2;obtain⟨ps,cA,aK⟩:=F.1;have r:(∃ps,(n,ps)∈G.funcs∧iN G aV ps a1)∧e4 G a aV a4 rest:=⟨⟨ps,cA,nH hV ps a1 aK⟩,ao⟩
  cases a<;>exact r
 | .lock u r rest,d,a,V,aV,T,a4,hV,hT,hd,h=>by
  have F:rX G V r∧e4 G d V T rest:=by cases d<;>exact h
  have ao:=dd rest d a V aV T a4 hV (fun x hx=>hT x (by simp[an.all,hx])) hd F.2;have r:rX G aV r∧e4 G a aV a4 rest:=⟨kK hV F.1,ao⟩
  cases a<;>exact r
 | .ite e th el rest,0,a,V,aV,T,a4,hV,hT,hd,h=>h.elim
 | .gv e th rest,0,a,V,aV,T,a4,hV,hT,hd,h=>h.elim
 | .ite e th el rest,d+1,0,V,aV,T,a4,hV,hT,hd,h=>ad
 | .gv e th rest,d+1,0,V,aV,T,a4,hV,hT,hd,h=>ad
 | .ite e th el rest,d+1,a+1,V,aV,T,a4,hV,hT,hd,h=>
  ⟨dK hV 2 e h.1,dd th d a V aV T a4 hV (fun x hx=>hT x (by simp[an.all,hx])) ad h.2.1,
   dd el d a V aV T a4 hV (fun x hx=>hT x (by simp[an.all,hx])) ad h.2.2.1,dd rest (d+1) (a+1) V aV T a4 hV (fun x hx=>hT x (by simp[an.all,hx])) hd h.2.2.2⟩
 | .gv e th rest,d+1,a+1,V,aV,T,a4,hV,hT,hd,h=>
  ⟨dK hV 2 e h.1,dd th d a V aV T a4 hV (fun x hx=>hT x (by simp[an.all,hx])) ad h.2.1,dd rest (d+1) (a+1) V aV T a4 hV (fun x hx=>hT x (by simp[an.all,hx])) hd h.2.2⟩
 | .ret rest,d,a,V,aV,T,a4,hV,hT,hd,h=>by
  have F:e4 G d V T rest:=by cases d<;>exact h
  have ao:=dd rest d a V aV T a4 hV (fun x hx=>hT x (by simpa[an.all] using hx)) hd F;cases a<;>exact ao
def hg(k:Nat):ByteArray:=⟨#[118,UInt8.ofNat (97+k % 26),UInt8.ofNat (97+k / 26 % 26)]⟩
theorem yN{j:Nat}(bi:j<26)(ap:k<26)(h:hg j=hg k):j=k:=by
 unfold hg at h;rw[ByteArray.ext_iff] at h;have av:=congrArg (fun a:Array UInt8=>a[1]!) h;have aV:(UInt8.ofNat (97+j % 26)).toNat=(UInt8.ofNat (97+k % 26)).toNat:=congrArg UInt8.toNat av;simp at aV;omega
theorem ED(ap:k<26):bF (hg k).data.toList=true:=by
 have:∀k:Fin 26,bF (hg k.val).data.toList=true:=by decide
 exact this ⟨k,ap⟩
structure Made(G:Env)(d:Nat)(V T:Lt)(L R:Nat)(l:List aA):Prop where
 wf:e4 G d V T (.eM l)
 all:∀n∈(an.eM l).all,∃k,R≤k∧k<L∧n=hg k
 num:(an.eM l).num≤2*(L - R)
 le:R≤L
theorem Made.nil(G:Env)(d:Nat)(V T:Lt)(L:Nat):Made G d V T L L []:=⟨mZ,fun n h=>by simp[an.eM,an.all] at h,by simp[an.eM,an.num],KG _⟩
def mg(T:Lt)(L:Nat):Prop:=∀k,k<L→hg k∉T
theorem Made.free{R:Nat}(h:Made G d V T L R l)(bS:L≤26)(J:mg T L):mg (T++decls l) R:=fun k ap hm=>by
 rcases KP.1 hm with hm|hm
 ·exact J k (aD h.le) hm
 ·obtain⟨j,ac,av,aV⟩:=h.all _ (ye l hm);have:=yN ad ad aV;omega
theorem Made.snoc{bu a6:Nat}(h:Made G d V T L bu l){m:List aA}(hm:e4 G d (V++decls l) (T++decls l) (.eM m))(bx:∀n∈(an.eM m).all,∃k,a6≤k∧k<bu∧n=hg k)
  (hn:(an.eM m).num≤2*(bu - a6)) (hle:a6≤bu):Made G d V T L a6 (l++m):=by
 refine⟨ti.2 ⟨h.wf,hm⟩,fun n hn=>?_,?_,KX hle h.le⟩
 ·rw[xp] at hn;rcases KP.1 hn with hn|hn
  ·obtain⟨k,ac,av,aV⟩:=h.all n hn;exact⟨k,ad,av,aV⟩
  ·obtain⟨k,ac,av,aV⟩:=bx n hn;exact⟨k,ac,by have:=h.le;omega,aV⟩
 ·rw[xN];have ac:=h.num;have av:=h.le;omega
def dN(i:Nat):ByteArray:=⟨#[103,UInt8.ofNat (48+i)]⟩
def iF(i:Nat):ByteArray:=⟨#[UInt8.ofNat (97+i)]⟩
def jx(i:Nat):ByteArray:=if i=0 then iG else ⟨#[102,UInt8.ofNat (48+i)]⟩
def ue(i:Nat):ByteArray:=⟨#[112,UInt8.ofNat (48+i)]⟩
def eX:Nat→List ByteArray
 | 0=>[]
 | n+1=>ue (n+1)::eX n
def wQ(ng nm nf:Nat):List ByteArray:=(List.range ng).map dN++(List.range nm).map iF++(List.range nf).map jx
def nS:List ByteArray:=wQ 2 4 4++eX 2
theorem pR:nS.Nodup:=by
 have h:(nS.map fun s=>s.data.toList).Nodup:=by decide
 exact(List.pairwise_map.1 h).imp fun bf e=>bf (by rw[e])
theorem sL:∀s∈nS,bF s.data.toList=true:=by decide
theorem ym:mg nS 26:=by
 have h:∀k:Fin 26,(hg k.val).data.toList∉nS.map fun s=>s.data.toList:=by decide
 intro k ap hm;exact h ⟨k,ap⟩ (Lf.2 ⟨_,hm,rfl⟩)
theorem wu{n:Nat}(h:n≤2):(eX n).Sublist (eX 2):=by
 obtain rfl|rfl|rfl:n=0∨n=1∨n=2:=ad
 ·exact List.nil_sublist _
 ·exact List.Sublist.cons _ (List.Sublist.refl _)
 ·exact List.Sublist.refl _
theorem Ez{ng nm nf n:Nat}(ac:ng≤2)(av:nm≤4)(aV:nf≤4)(bz:n≤2):(wQ ng nm nf++eX n).Sublist nS:=by
 unfold nS wQ;refine List.Sublist.append (List.Sublist.append (List.Sublist.append ?_ ?_) ?_) (wu bz)
 ·exact(List.range_sublist.2 ac).map _
 ·exact(List.range_sublist.2 av).map _
 ·exact(List.range_sublist.2 aV).map _
theorem nt{α:Type}{f:α→ByteArray}{h:Nat→ByteArray}{l:List α}(hl:∀i x,l[i]?=some x→f x=h i):l.map f=(List.range l.length).map h:=by
 apply List.ext_getElem?
 intro i;rw[List.getElem?_map,List.getElem?_map];by_cases an:i<l.length
 ·have hx:l[i]?=some l[i]:=List.getElem?_eq_getElem an;rw[hx,List.getElem?_range an];simp[hl i _ hx]
 ·rw[List.getElem?_eq_none ad,List.getElem?_eq_none (by simp;omega)];rfl
structure gA(p:bM):Prop where
 ng:p.globals.length≤2
 nm:1≤p.af.length∧p.af.length≤4
 nf:1≤p.funcs.length∧p.funcs.length≤4
 gs:∀i g,p.globals[i]?=some g→g.1=dN i∧-2≤g.2∧g.2≤2
 ms:∀i m,p.af[i]?=some m→m.name=iF i∧0≤m.size∧m.size≤3∧(m.re=true→m.size=0)
 fs:∀i f,p.funcs[i]?=some f→f.name=jx i∧(∃n,n≤2∧f.params.map (·.1)=eX n)∧(i=0→f.params=[])
theorem gA.wQ{p:bM}(h:gA p):bh p=wQ p.globals.length p.af.length p.funcs.length:=by
 unfold bh fo YtnhhdaggkiomoaaGreat.wQ;rw[nt fun i x hx=>(h.gs i x hx).1,nt fun i x hx=>(h.ms i x hx).1,nt fun i x hx=>(h.fs i x hx).1]
theorem gA.sub(h:gA p)(J:f∈p.funcs):(bh p++f.params.map (·.1)).Sublist nS:=by
 obtain⟨i,an⟩:=List.getElem?_of_mem J;obtain⟨n,hn,hp⟩:=(h.fs i f an).2.1;rw[h.wQ,hp];exact Ez h.ng h.nm.2 h.nf.2 hn
theorem l3:∀n,(eX n).length=n
 | 0=>rfl
 | n+1=>by simp[eX,l3 n]
theorem gA.jy(h:gA p)(J:f∈p.funcs):f.params.length≤2:=by
 obtain⟨i,an⟩:=List.getElem?_of_mem J;obtain⟨n,hn,hp⟩:=(h.fs i f an).2.1;have:=congrArg List.length hp;rw[KK,l3] at this;omega
theorem gA.free(h:gA p)(J:f∈p.funcs):mg (bh p++f.params.map (·.1)) 26:=fun k ap hm=>ym k ap ((h.sub J).subset hm)
theorem gA.JB(h:gA p):∃f,p.funcs[0]?=some f∧f.name=iG∧f.params=[]:=by
 have:0<p.funcs.length:=h.nf.1;have hx:p.funcs[0]?=some p.funcs[0]:=List.getElem?_eq_getElem this;exact⟨_,hx,(h.fs 0 _ hx).1,(h.fs 0 _ hx).2.2 rfl⟩
theorem gA.env(h:gA p)(J:f∈p.funcs):nK (hW p f):=by
 have ap:∀{f:aK},f∈p.funcs→∀s∈bh p++f.params.map (·.1),bF s.data.toList=true:=fun J s hs=>sL s ((h.sub J).subset hs);refine⟨fun m hm=>ap J _ ?_,fun q bK=>ap J _ ?_,fun g a2=>?_⟩
 ·simp only[bh,KP,Lf];exact .inl (.inl (.inr ⟨m,hm,rfl⟩))
 ·simp only[KP,Lf];exact .inr ⟨q,bK,rfl⟩
 ·obtain⟨k,bX,rfl⟩:=Lf.1 a2;refine⟨ap bX _ ?_,h.jy bX⟩;simp only[bh,KP,Lf];exact .inl (.inr ⟨k,bX,rfl⟩)
theorem gA.vars(h:gA p)(J:f∈p.funcs):dJ (fo p++ct f.params):=fun s hs=>by
 refine sL s ((h.sub J).subset ?_);rcases KP.1 hs with hs|hs
 ·exact KP.2 (.inl (by simp only[bh,KP];exact .inl (.inl hs)))
 ·obtain⟨q,bK,rfl⟩:=Lf.1 hs;exact KP.2 (.inr (Lf.2 ⟨q,(List.mem_filter.1 bK).1,rfl⟩))
theorem gA.wf(h:gA p)(O:∀f∈p.funcs,e4 (hW p f) 4 (fo p++ct f.params) (bh p++f.params.map (·.1)) f.body)(hn:(p.funcs.map fun f=>f.body.num).sum≤64):ox p:=by
 obtain⟨f0,h0,b,a⟩:=h.JB;have ao:=KJ h0;have hs:=h.sub ao;rw[a] at hs;simp only[Le,Lg] at hs;refine⟨fun s hm=>sL s (hs.subset hm),hs.nodup pR,by have:=h.ng;omega,by have:=h.nm;omega,by have:=h.nf;omega,fun g a2=>?_,fun m hm=>?_,fun f J=>?_,⟨0,f0,h0,b,a⟩,hn⟩
 ·obtain⟨i,an⟩:=List.getElem?_of_mem a2;have:=(h.gs i g an).2;omega
 ·obtain⟨i,an⟩:=List.getElem?_of_mem hm;have:=(h.ms i m an).2;exact⟨this.1,ad,this.2.2⟩
 ·refine⟨(h.env J).params,h.jy J,(h.sub J).nodup pR,O f J⟩
theorem oG(g:ByteArray×Int):(iA g).sz=2:=rfl
theorem mv{g:ByteArray×Int}:(iA g).rep w P cs↔cs=[.string g.1,.int .i64 g.2]:=by
 unfold iA;rw[bK,cp];exact C7
theorem tE(g:ByteArray×Bool):(ds g).sz=2:=rfl
theorem rr{g:ByteArray×Bool}:(ds g).rep w P cs↔cs=[.string g.1,.bool g.2]:=by
 exact Gy
theorem pH(f:aK):(dr f).sz=3:=rfl
theorem kv(h:(dr f).rep w P cs):∃A n c B m d,cs=[.string f.name,.slice A n c,.slice B m d]∧Sl w P A n (f.params.map ds)∧Sl w P B m (c5 f.body):=by
 unfold dr at h;rw[bK,cp] at h;obtain⟨y,rfl,h⟩:=h;obtain⟨A,n,c,cG,rfl,_,ac,h⟩:=aN.1 h;obtain⟨B,m,d,b5,rfl,_,av,h⟩:=aN.1 h;rw[aP] at h;subst h;exact⟨_,_,_,_,_,_,rfl,ac,av⟩
theorem sJ(m:bI):(ey m).sz=3:=rfl
theorem ja(n:Int):lB n=aV (hB n):=rfl
structure hk(w:World)(P:Nat→Prop)(p:bM)(GA:Ls)(gn:Nat)(MA:Ls)(mn:Nat)(FA:Ls)(fn:Nat):Prop where
 g:Sl w P GA gn (p.globals.map iA)
 m:Sl w P MA mn (p.af.map ey)
 f:Sl w P FA fn (p.funcs.map dr)
theorem oN(s:ByteArray):s.size=s.data.toList.length:=rfl
theorem wz(l:List (ByteArray×Bool))(k:Nat):(ha (l.take k)).length≤(ha (l.take (k+1))).length:=by
 cases h:l[k]? with
 | none=>rw[KO (i:=k+1) (by have:=List.getElem?_eq_none_iff.1 h;omega),KO (List.getElem?_eq_none_iff.1 h)];exact KG _
 | some a=>rw[qp h];simp
theorem qo(l:List (ByteArray×Bool)):∀j k:Nat,(ha (l.take k)).length≤(ha (l.take (k+j))).length
 | 0,k=>KG _
 | j+1,k=>KX (qo l j k) (wz l (k+j))
theorem uk(l:List (ByteArray×Bool))(k:Nat):(ha (l.take k)).length≤(ha l).length:=by
 by_cases h:k≤l.length
 ·have:=qo l (l.length - k) k;rw[show k+(l.length - k)=l.length by omega,List.take_length] at this;exact this
 ·rw[KO ad];exact KG _
structure xa(p:bM):Prop where
 inits:∀g∈p.globals,-9223372036854775808≤g.2∧g.2≤9223372036854775807
 gp:∀m∈p.af,m.size≤9223372036854775807
 src:∀f∈p.funcs,nC f.body∧f.body.num≤900000∧f.params.length≤1000
 len:(aV (fD p)).length≤262144
 jy:p.globals.length≤1000∧p.af.length≤1000∧p.funcs.length≤1000
theorem yv(b:an)(h:nC b):hj b:=(JA v5 b h).1
namespace BP
theorem Ax{p:Prop}(h:p:=by
 generalize E:strOf (GT++(am++fk kd (p.funcs.take k)))=pre at *;have y:=ae E.symm;clear E;go_wp2;have bF:(((pre++(⟨#[102,117,110,99,32]⟩:ByteArray))++f.name)++(⟨#[40]⟩:ByteArray)).size≤600000:=by
  have cr:(⟨#[102,117,110,99,32]⟩:ByteArray).size=5:=rfl;have e1:(⟨#[40]⟩:ByteArray).size=1:=rfl;simp only[ByteArray.size_append];omega
 generalize K:((pre++(⟨#[102,117,110,99,32]⟩:ByteArray))++f.name)++(⟨#[40]⟩:ByteArray)=al at *;have S:=ae K.symm;clear K a0 ai af bt M;go_loopw [3,9] (fun sv cI bC=>∃j:Nat,j≤pn∧cI=.int .i64 j∧sv=.string (al++strOf (ha (f.params.take j)))∧Ext w bC∧aq bC w.heap.size 27 #[.slice GA gn gc,.slice MA mn mc,.slice (some ⟨b,o,none⟩) fn fc]∧Ext V bC) (fun _ cI _=>pn - (intOf cI).toNat)
 case atStart=>
  refine⟨0,ad,rfl,?_,bu.o,G.o,Lo⟩;have:strOf (ha (f.params.take 0))=⟨#[]⟩:=rfl;rw[this];congr 1
  rw[ByteArray.ext_iff];simp
 case round=>
  obtain⟨j,bi,rfl,rfl,aw,aR,hV⟩:=hrel;obtain⟨v,u,Q⟩:=eh aw aR hV;obtain⟨a0,ai,af⟩:=(bR.ai hV).two;have az:(strOf (ha (f.params.take j))).size≤262144:=by
   rw[aO];exact KX (uk f.params j) aa.o
  by_cases X:j<pn
  ·obtain⟨pb,fu,q,cs,rfl,eN,R,bv,bp,Z⟩:=(cl.on (Fr.ext hV)).gZ tE X;obtain rfl:=rr.1 bv;have c0:=Z 0 _ rfl;have c1:=Z 1 _ rfl;simp only[KQ] at c0;have bQ:pb<_:=eN;obtain⟨cq,qm⟩:=q;have dI:=qp R;have H:cq.size≤262144:=by
    have ac:=uk f.params (j+1);have av:=aa.o;rw[dI] at ac;simp only[KI] at ac;rw[oN];omega
   simp only at dI c0 c1 H;have Y:=ae dI;clear aw aR hV bp Z R bv eN dI;by_cases h0:0<j
   ·have q1:decide ((j:Int) > 0)=true:=by simp;omega
    cases qm
    all_goals
     go_wp2;go_roundw
     case rel=>
      refine⟨j+1,ad,by go_num,?_,v.o,u.o,Q.o⟩;rw[Y.o,if_pos h0];congr 1
      simp only[show (⟨#[44,32]⟩:ByteArray)=strOf [44,32] from rfl,show (⟨#[109,117,116,101,120,32]⟩:ByteArray)=strOf [109,117,116,101,120,32] from rfl];exact zE
     case measure=>exact aH
   ·have q1:decide ((j:Int) > 0)=false:=by simp;omega
    cases qm
    all_goals
     go_wp2;go_roundw
     case rel=>
      refine⟨j+1,ad,by go_num,?_,v.o,u.o,Q.o⟩;rw[Y.o,if_neg h0];congr 1
      try simp only[show (⟨#[109,117,116,101,120,32]⟩:ByteArray)=strOf [109,117,116,101,120,32] from rfl]
      exact zE
     case measure=>exact aH
  ·obtain rfl:pn=j:=ad;have ao:=ae (show ha (f.params.take pn)=ha f.params by rw[←an.o,List.take_length]);rw[ao.o] at az ⊢;clear aw aR hV X;go_wp2_with(fail);refine((show hj f.body from U.1) 1 cf bn bc _ (aD U.2) (dr.on (Fr.ext Q.o)) I.o).mono ?_;rintro e hZ ⟨rfl,T⟩;have eH:=ae (v.trans T);have N:=ae (u.ai T);clear T a0 ai af;go_wp2;go_roundw
   case rel=>
    refine⟨k+1,ad,by go_num,?_,eH.o,N.o⟩;obtain⟨c5,aj⟩:=i.o;rw[S.o,y.o,c5,aj];congr 1
    simp only[show (⟨#[102,117,110,99,32]⟩:ByteArray)=strOf [102,117,110,99,32] from rfl,show (⟨#[40]⟩:ByteArray)=strOf [40] from rfl,show (⟨#[41,32,123,10]⟩:ByteArray)=strOf [41,32,123,10] from rfl,show (⟨#[125,10]⟩:ByteArray)=strOf [125,10] from rfl];conv=>lhs;rw[←db f.name]
    simp only[ah];simp
   case measure=>exact aH
 ):p:=h
theorem vp{p:Prop}(h:p:=by
 have hlen:=hp.len;have dg:gn≤1000:=by have:=hp.jy;omega
 have cF:mn≤1000:=by have:=hp.jy;omega
 have dJ:fn≤1000:=by have:=hp.jy;omega
 rw[rN] at hlen;simp only[KI] at hlen;rw[rN];obtain⟨ck,cC,cR,bV⟩:=iS hp a2 hm J;have ca:=aB dv lm lf;have F:=ae hlen;clear h a2 hm J dv lm lf hlen hp;go_enter func112,ntmps112;go_wp2;generalize ba:World.alloc _ _=W;have aw:=aU ba;have aR:=aG ba;clear ba;obtain⟨bq,b2⟩:=aI aw aR;clear aw aR;go_loopw [3,4] (fun sv bd wr=>∃k:Nat,k≤gn∧bd=.int .i64 k∧sv=.string (strOf (fk hY (p.globals.take k)))∧Ext w wr∧aq wr w.heap.size 27 #[.slice GA gn gc,.slice MA mn mc,.slice FA fn fc]) (fun _ bd _=>gn - (intOf bd).toNat)
 case atStart=>exact⟨0,ad,rfl,rfl,bq.o,b2.o⟩
 case round=>
  obtain⟨k,ap,rfl,rfl,aw,aR⟩:=hrel;clear bq b2;obtain⟨bq,b2⟩:=aI aw aR;obtain⟨a0,ai,af⟩:=aR.two;have bt:(strOf (fk hY (p.globals.take k))).size≤262144:=by
   rw[aO];have ac:=kN hY p.globals k;have av:=F.o;omega
  by_cases ak:k<gn
  ·obtain⟨b,o,g,cs,rfl,O,r,aP,bp,Z⟩:=(cC.on (Fr.ext aw)).gZ oG ak;obtain rfl:=mv.1 aP;have c0:=Z 0 _ rfl;have c1:=Z 1 _ rfl;simp only[KQ] at c0;have aX:b<wr.heap.size:=O;obtain⟨nm,z⟩:=g;have a5:=ck.inits _ (KJ r);have c5:=m5 (f:=hY) r;have aj:=DJ (nm,z);have hle:=kN hY p.globals (k+1);have l:(fk hY (p.globals.take (k+1))).length≤262144:=by have:=F.o;omega
   rw[c5,aj] at l;simp only[KI] at l;have M:nm.size≤262144:=by rw[oN];omega
   simp only at a5 aj c0 c1 M;by_cases h0:z=0
   ·subst h0;have aL:=ae (show ((strOf (fk hY (p.globals.take k))++(⟨#[118,97,114,32]⟩:ByteArray))++nm)++(⟨#[59,10]⟩:ByteArray)=strOf (fk hY (p.globals.take (k+1))) by
     rw[c5,aj,show (⟨#[118,97,114,32]⟩:ByteArray)=strOf [118,97,114,32] from rfl,show (⟨#[59,10]⟩:ByteArray)=strOf [59,10] from rfl];conv=>lhs;rw[←db nm]
     rw[ah,ah,ah];simp)
    clear aw aR r aP bp Z c5 aj hle l a5 O;go_wp2;go_roundw
    case rel=>exact⟨k+1,ad,by go_num,by rw[←aL.o],bq.o,b2.o⟩
    case measure=>exact aH
   ·have q1:(z != 0)=true:=by simpa using h0
    have cB:(z == 0)=false:=by simpa using h0
    rw[if_neg h0] at aj l;simp only[KI] at l;have s:(strOf (lB z)).size≤262144:=by rw[aO,ja];omega
    have aL:=ae (show ((((strOf (fk hY (p.globals.take k))++(⟨#[118,97,114,32]⟩:ByteArray))++nm)++(⟨#[32,61,32]⟩:ByteArray))++strOf (lB z))++(⟨#[59,10]⟩:ByteArray)=strOf (fk hY (p.globals.take (k+1))) by
     rw[c5,aj,show (⟨#[118,97,114,32]⟩:ByteArray)=strOf [118,97,114,32] from rfl,show (⟨#[59,10]⟩:ByteArray)=strOf [59,10] from rfl,show (⟨#[32,61,32]⟩:ByteArray)=strOf [32,61,32] from rfl,ja];conv=>lhs;rw[←db nm]
     rw[ah,ah,ah,ah,ah];simp)
    clear aw aR r aP bp Z c5 aj hle l O h0;go_wp2_with(fail);refine(l1 z _ a5).mono ?_;rintro e aS ⟨rfl,ar⟩;have bu:=ae (bq.trans (Fr.of ar));have G:=ae (b2.ai (Fr.of ar));clear ar a0 ai af c0 c1;go_wp2;go_roundw
    case rel=>exact⟨k+1,ad,by go_num,by rw[←aL.o],bu.o,G.o⟩
    case measure=>exact aH
  ·obtain rfl:gn=k:=ad;have n:=ae (show fk hY (p.globals.take gn)=fk hY p.globals by rw[←ca.1,List.take_length]);rw[n.o] at bt ⊢;clear aw aR;generalize ax:fk hY p.globals=GT at *;go_wp2;clear a0 ai af n;go_loopw [3,5] (fun sv bd wr=>∃k:Nat,k≤mn∧bd=.int .i64 k∧sv=.string (strOf (GT++fk kf (p.af.take k)))∧Ext w wr∧aq wr w.heap.size 27 #[.slice GA gn gc,.slice MA mn mc,.slice FA fn fc]) (fun _ bd _=>mn - (intOf bd).toNat)
   case atStart=>exact⟨0,ad,rfl,by simp[fk],bq.o,b2.o⟩
   case round=>
    obtain⟨k,ap,rfl,rfl,aw,aR⟩:=hrel;clear bq b2 bt;obtain⟨bq,b2⟩:=aI aw aR;obtain⟨a0,ai,af⟩:=aR.two;have bt:(strOf (GT++fk kf (p.af.take k))).size≤262144:=by
     rw[aO,KI];have ac:=kN kf p.af k;have av:=F.o;omega
    by_cases dq:k<mn
    ·obtain⟨b,o,m,cs,rfl,O,r,aP,bp,Z⟩:=(cR.on (Fr.ext aw)).gZ sJ dq;obtain rfl:=fb.1 aP;have c0:=Z 0 _ rfl;have c1:=Z 1 _ rfl;have c2:=Z 2 _ rfl;simp only[KQ] at c0;have aX:b<wr.heap.size:=O;obtain⟨nm,re,z⟩:=m;have a5:=ck.gp _ (KJ r);have c5:=m5 (f:=kf) r;have aj:=DW ⟨nm,re,z⟩;have hle:=kN kf p.af (k+1);have l:GT.length+(fk kf (p.af.take (k+1))).length≤262144:=by have:=F.o;omega
     rw[c5,aj] at l;simp only[KI] at l;have M:nm.size≤262144:=by rw[oN];omega
     simp only at a5 aj c0 c1 c2 M;have s:0<z→(strOf (lB z)).size≤262144:=fun h0=>by
      rw[if_pos h0] at l;simp only[KI] at l;rw[aO,ja];omega
     clear bp Z hle l r aP O aw aR;have P:=ae c5;go_upto_region 13 with(fail);generalize hV:World.alloc _ _=V;have L:=aU hV;have bu:=ae (bq.trans L);have G:=ae (b2.ai L);have hC:=aG hV;clear hV a0 ai af c0 c1 c2 aX bq b2 L c5;obtain⟨a0,ai,af⟩:=hC.two;clear hC;cases re
     all_goals
      by_cases h0:0<z
      ·rw[if_pos h0] at aj;have b3:=s h0;have q1:decide (z > 0)=true:=by simpa using h0
       have dj:-9223372036854775808≤z∧z≤9223372036854775807:=ad;have i:=ae aj;clear aj h0 s;go_wp2_with(fail);refine(l1 z _ dj).mono ?_;rintro e aS ⟨rfl,ar⟩;have a4:=ae (bu.trans (Fr.of ar));have cb:=ae (G.ai (Fr.of ar));clear ar a0 ai af;go_wp2;go_roundw
       case rel=>
        refine⟨k+1,ad,by go_num,?_,a4.o,cb.o⟩;rw[P.o,i.o,←ja];congr 1
        simp only[show (⟨#[114]⟩:ByteArray)=strOf [114] from rfl,show (⟨#[109,117,116,101,120,32]⟩:ByteArray)=strOf [109,117,116,101,120,32] from rfl,show (⟨#[91]⟩:ByteArray)=strOf [91] from rfl,show (⟨#[93]⟩:ByteArray)=strOf [93] from rfl,show (⟨#[59,10]⟩:ByteArray)=strOf [59,10] from rfl];conv=>lhs;rw[←db nm]
        simp only[ah];simp
       case measure=>exact aH
      ·rw[if_neg h0] at aj;have q1:decide (z > 0)=false:=by simp;omega
       have i:=ae aj;clear aj h0 s a5;go_wp2;go_roundw
       case rel=>
        refine⟨k+1,ad,by go_num,?_,bu.o,G.o⟩;rw[P.o,i.o];congr 1
        simp only[show (⟨#[114]⟩:ByteArray)=strOf [114] from rfl,show (⟨#[109,117,116,101,120,32]⟩:ByteArray)=strOf [109,117,116,101,120,32] from rfl,show (⟨#[59,10]⟩:ByteArray)=strOf [59,10] from rfl];conv=>lhs;rw[←db nm]
        simp only[ah];simp
       case measure=>exact aH
    ·obtain rfl:mn=k:=ad;have n:=ae (show fk kf (p.af.take mn)=fk kf p.af by rw[←ca.2.1,List.take_length]);rw[n.o] at bt ⊢;clear aw aR;generalize ay:fk kf p.af=am at *;go_wp2;clear a0 ai af n;go_loopw [3,7] (fun sv bd wr=>∃k:Nat,k≤fn∧bd=.int .i64 k∧sv=.string (strOf (GT++(am++fk kd (p.funcs.take k))))∧Ext w wr∧aq wr w.heap.size 27 #[.slice GA gn gc,.slice MA mn mc,.slice FA fn fc]) (fun _ bd _=>fn - (intOf bd).toNat)
     case atStart=>exact⟨0,ad,rfl,by simp[fk],bq.o,b2.o⟩
     case round=>
      obtain⟨k,ap,rfl,rfl,aw,aR⟩:=hrel;clear bq b2 bt;obtain⟨bq,b2⟩:=aI aw aR;obtain⟨a0,ai,af⟩:=aR.two;have bt:(strOf (GT++(am++fk kd (p.funcs.take k)))).size≤262144:=by
       rw[aO,KI,KI];have ac:=kN kd p.funcs k;have av:=F.o;omega
      by_cases bj:k<fn
      ·obtain⟨b,o,f,cs,rfl,O,r,aP,bp,Z⟩:=(bV.on (Fr.ext aw)).gZ pH bj;obtain⟨PA,pn,pc,cf,bn,bc,rfl,cA,bl⟩:=kv aP;have c0:=Z 0 _ rfl;have c1:=Z 1 _ rfl;have c2:=Z 2 _ rfl;simp only[KQ] at c0;have aX:b<wr.heap.size:=O;have a5:=ck.src _ (KJ r);have c5:=m5 (f:=kd) r;have aj:=DB f;have hle:=kN kd p.funcs (k+1);have l:GT.length+(am.length+(fk kd (p.funcs.take (k+1))).length)≤262144:=by have:=F.o;omega
       rw[c5,aj] at l;simp only[KI] at l;have M:f.name.size≤262144:=by rw[oN];omega
       have aZ:(ha f.params).length≤262144:=ad;have bO:(cD 1 f.body).length≤262144:=ad;have bk:f.params.length=pn:=by rw[←cA.1,KK]
       have gt:pn≤1000:=ad;obtain⟨aa,I,an⟩:=eh aZ bO bk;have U:=ag (yv f.body a5.1) a5.2.1;have aA:(strOf (cD 1 f.body)).size≤262144:=by rw[aO];exact bO
       have i:=ag c5 aj;clear bp Z hle l r aP O aw aR c5 aj a5 aZ bO bk;go_upto_region 23 with(fail);exact Aw
      ·obtain rfl:fn=k:=ad;have n:=ae (show fk kd (p.funcs.take fn)=fk kd p.funcs by rw[←ca.2.2,List.take_length]);rw[n.o];clear aw aR;go_wp2;go_ret;exact⟨ret_str (by rw[←ax,←ay]),bq.o⟩
 ):p:=h
end BP
open BP in
theorem ui(p:bM)(hp:xa p)(GA:Ls)(gn gc:Nat)(MA:Ls)(mn mc:Nat)(FA:Ls)(fn fc:Nat)(w:World)(h:hk w (au w) p GA gn MA mn FA fn) :
  Calls prog 112 #[.agg #[.slice GA gn gc,.slice MA mn mc,.slice FA fn fc]] w fun e ab=>e=.returned (.string (strOf (aV (fD p))))∧Ext w ab:=by
 exact vo
theorem Fl{l:List UInt8}(h:(dt l).2.2=0):l.length≤262144:=by
 unfold dt at h;split at h
 ·simp at h
 ·omega
theorem ox.print(hp:ox p):xa p where
 inits:=fun g a2=>by have:=hp.inits g a2;omega
 gp:=fun m hm=>by have:=hp.gp m hm;omega
 src:=fun f J=>⟨ji _ 4 (ki (hp.env J) f.body 4 _ _ (hp.vars J) (hp.funcs f J).body),by
  have ac:f.body.num≤(p.funcs.map fun f=>f.body.num).sum:=jj (fun f:aK=>f.body.num) J;have:=hp.jy;omega,by have:=(hp.funcs f J).jy;omega⟩
 len:=Fl (uh hp)
 jy:=by
  have:=hp.n7;have:=hp.wi;have:=hp.D0;omega
theorem x1(w:World)(s:ByteArray)(cap:Nat)(hc:s.size≤cap)(hs:s.size≤1000000)(e:TypeId)(sp:Nat×Nat):ft (w.alloc (.cells (bytesRow s cap) e sp)) w.heap.size 0 cap s:=by
 refine⟨fun i an=>?_,by simp,hc,hs⟩;rw[KY,cell_of_row _ _ i _ e sp (heap_alloc_new w _)];unfold bytesRow;rw[Array.getElem?_append_left (by simpa using an)];simp only[Array.getElem?_map];rw[Array.getElem?_eq_getElem (by simpa using an)];rfl
namespace BX
theorem Ax{p:Prop}(h:p:=by
 go_wp2_with(fail);refine(g6 f.name _ bW).mono ?_;rintro e aS ⟨rfl,ar⟩;rw[i.o];have a4:=ae (bu.trans ar);have cb:=ae (G.ai ar);have bJ:=ae (bR.ai ar);have l:=ae ar;clear ar a0 ai af;obtain⟨a0,ai,af⟩:=bJ.two;go_wp2_with(fail);refine((show FY f.body from ud f.body) 4 0 _ _ _ _ ac.o (aD fI.o) ad (dr.on (Fr.ext l.o))).mono ?_;rintro e aT ⟨rfl,bw⟩;have a9:=ae (a4.trans bw);have a7:=ae (cb.ai bw);have T:=ae (bJ.ai bw);have ah:=ae (l.trans bw);clear bw a0 ai af;obtain⟨a0,ai,af⟩:=T.two;go_wp2;clear a0 ai af;go_loopw [8] (fun cI bC=>∃j:Nat,j≤pn∧cI=.int .i64 j∧Ext w bC∧aq bC w.heap.size 27 #[.slice GA gn gc,.slice MA mn mc,.slice (some ⟨b,o,none⟩) fn fc]∧Ext V bC) (fun cI _=>pn - (intOf cI).toNat)
 case atStart=>exact⟨0,ad,rfl,a9.o,a7.o,ah.o⟩
 case round=>
  obtain⟨j,bi,rfl,aw,aR,hV⟩:=hrel;obtain⟨v,u,Q⟩:=eh aw aR hV;obtain⟨a0,ai,af⟩:=(bR.ai hV).two;by_cases X:j<pn
  ·obtain⟨pb,fu,q,cs,rfl,eN,R,bv,bp,Z⟩:=(cl.on (Fr.ext hV)).gZ tE X;obtain rfl:=rr.1 bv;have c0:=Z 0 _ rfl;have c1:=Z 1 _ rfl;simp only[KQ] at c0;have bQ:pb<_:=eN;have H:=y.params _ (KJ R);obtain⟨cq,qm⟩:=q;simp only at H c0 c1;have ag:=ae (show jC cq=true from H);have ao:=ib H;clear aw aR hV bp Z R bv eN H;go_wp2_with(fail);refine(g6 cq _ ao).mono ?_;rintro e cN ⟨rfl,du⟩;rw[ag.o];have F:=ae (v.trans du);have N:=ae (u.ai du);have al:=ae (Q.trans du);clear du a0 ai af c0 c1 bQ;go_wp2;go_roundw
   case rel=>exact⟨j+1,ad,by go_num,F.o,N.o,al.o⟩
   case measure=>exact aH
  ·obtain rfl:pn=j:=ad;clear aw aR hV X;go_wp2;go_roundw
   case rel=>exact⟨k+1,ad,by go_num,v.o,u.o⟩
   case measure=>exact aH
 ):p:=h
theorem su{p:Prop}(h:p:=by
 obtain⟨ck,cC,cR,bV,aj⟩:=CR hp a2 hm J hp.names;clear h a2 hm J dv lm lf hp;go_enter func78,ntmps78;go_upto_region 1 with(fail);generalize ba:World.alloc _ _=W;have aw:=aU ba;have aR:=aG ba;clear ba;obtain⟨bq,b2⟩:=aI aw aR;obtain⟨a0,ai,af⟩:=aR.two;clear aw aR;go_wp2;clear a0 ai af;go_loopw [3] (fun bd wr=>∃k:Nat,k≤gn∧bd=.int .i64 k∧Ext w wr∧aq wr w.heap.size 27 #[.slice GA gn gc,.slice MA mn mc,.slice FA fn fc]) (fun bd _=>gn - (intOf bd).toNat)
 case atStart=>exact⟨0,ad,rfl,bq.o,b2.o⟩
 case round=>
  obtain⟨k,ap,rfl,aw,aR⟩:=hrel;clear bq b2;obtain⟨bq,b2⟩:=aI aw aR;obtain⟨a0,ai,af⟩:=aR.two;by_cases ak:k<gn
  ·obtain⟨b,o,g,cs,rfl,O,r,aP,bp,Z⟩:=(cC.on (Fr.ext aw)).gZ oG ak;obtain rfl:=mv.1 aP;have c0:=Z 0 _ rfl;have c1:=Z 1 _ rfl;simp only[KQ] at c0;have aX:b<_:=O;obtain⟨nm,z⟩:=g;have a5:=ck.inits _ (KJ r);have I:bF nm.data.toList=true:=aj.o nm (by simp only[bh,fo,KP,Lf];exact .inl (.inl ⟨_,KJ r,rfl⟩));have i:=ae (show jC nm=true from I);have bW:=ib I;simp only at a5 c0 c1;have bT:(z == -9223372036854775808)=false:=by simp;omega
   clear aw aR r aP bp Z O I;go_wp2_with(fail);refine(g6 nm _ bW).mono ?_;rintro e aS ⟨rfl,ar⟩;rw[i.o];have bu:=ae (bq.trans ar);have G:=ae (b2.ai ar);have f1:=(ar.cell (j:=o+k*2+1) aX (fun h=>h)).trans c1;have bU:b<aS.heap.size:=KH aX ar.size;clear ar a0 ai af c0 c1 aX;obtain⟨a0,ai,af⟩:=G.two;go_wp2;go_roundw
   case rel=>exact⟨k+1,ad,by go_num,bu.o,G.o⟩
   case measure=>exact aH
  ·obtain rfl:gn=k:=ad;clear aw aR;go_wp2;clear a0 ai af;go_loopw [4] (fun bd wr=>∃k:Nat,k≤mn∧bd=.int .i64 k∧Ext w wr∧aq wr w.heap.size 27 #[.slice GA gn gc,.slice MA mn mc,.slice FA fn fc]) (fun bd _=>mn - (intOf bd).toNat)
   case atStart=>exact⟨0,ad,rfl,bq.o,b2.o⟩
   case round=>
    obtain⟨k,ap,rfl,aw,aR⟩:=hrel;clear bq b2;obtain⟨bq,b2⟩:=aI aw aR;obtain⟨a0,ai,af⟩:=aR.two;by_cases dq:k<mn
    ·obtain⟨b,o,m,cs,rfl,O,r,aP,bp,Z⟩:=(cR.on (Fr.ext aw)).gZ sJ dq;obtain rfl:=fb.1 aP;have c0:=Z 0 _ rfl;have c1:=Z 1 _ rfl;have c2:=Z 2 _ rfl;simp only[KQ] at c0;have aX:b<_:=O;obtain⟨nm,re,z⟩:=m;have a5:=ck.gp _ (KJ r);have I:bF nm.data.toList=true:=aj.o nm (by simp only[bh,KP,Lf];exact .inl (.inr ⟨_,KJ r,rfl⟩));have i:=ae (show jC nm=true from I);have bW:=ib I;simp only at a5 c0 c1 c2;have q1:decide (z<0)=false:=by simp;omega
     have cB:decide (z > 64)=false:=by simp;omega
     clear bp Z r aP O aw aR I;go_upto_region 12 with(fail);generalize hV:World.alloc _ _=V;have L:=aU hV;have bu:=ae (bq.trans L);have G:=ae (b2.ai L);have hC:=aG hV;have bR:=ae hC;clear hV a0 ai af c0 c1 c2 aX bq b2 L;obtain⟨a0,ai,af⟩:=hC.two;clear hC;go_wp2_with(fail);refine(g6 nm _ bW).mono ?_;rintro e aS ⟨rfl,ar⟩;rw[i.o];have a4:=ae (bu.trans ar);have cb:=ae (G.ai ar);have an:=bR.ai ar;clear ar a0 ai af;obtain⟨a0,ai,af⟩:=an.two;clear an
     cases re with
     | false=>
      exact Gp
     | true=>
      obtain rfl:z=0:=a5.2.2 rfl;exact Gp
    ·obtain rfl:mn=k:=ad;clear aw aR;go_wp2;clear a0 ai af;go_loopw [6] (fun bd wr=>∃k:Nat,k≤fn∧bd=.int .i64 k∧Ext w wr∧aq wr w.heap.size 27 #[.slice GA gn gc,.slice MA mn mc,.slice FA fn fc]) (fun bd _=>fn - (intOf bd).toNat)
     case atStart=>exact⟨0,ad,rfl,bq.o,b2.o⟩
     case round=>
      obtain⟨k,ap,rfl,aw,aR⟩:=hrel;clear bq b2;obtain⟨bq,b2⟩:=aI aw aR;obtain⟨a0,ai,af⟩:=aR.two;by_cases bj:k<fn
      ·obtain⟨b,o,f,cs,rfl,O,r,aP,bp,Z⟩:=(bV.on (Fr.ext aw)).gZ pH bj;obtain⟨PA,pn,pc,cf,bn,bc,rfl,cA,bl⟩:=kv aP;have c0:=Z 0 _ rfl;have c1:=Z 1 _ rfl;have c2:=Z 2 _ rfl;simp only[KQ] at c0;have aX:b<_:=O;have cV:=KJ r;have I:bF f.name.data.toList=true:=aj.o f.name (by simp only[bh,KP,Lf];exact .inr ⟨_,cV,rfl⟩);have i:=ae (show jC f.name=true from I);have bW:=ib I;have bk:f.params.length=pn:=by rw[←cA.1,KK]
       have gt:pn≤2:=by have:=(ck.funcs f cV).jy;omega
       have y:=ae (ck.funcs f cV);have ac:=ae (ki (ck.env cV) f.body 4 _ _ (ck.vars cV) (ck.funcs f cV).body);have fI:=ae (ck.print.src f cV).2.1;clear bp Z r aP O aw aR I bk cV;go_upto_region 18 with(fail);exact Aw
      ·obtain rfl:fn=k:=ad;have s:=ae (show hk _ (au _) p GA gn MA mn FA fn from ⟨cC.on (Fr.ext aw),cR.on (Fr.ext aw),bV.on (Fr.ext aw)⟩);clear aw aR;go_wp2_with(fail);refine(ui p ck.print GA gn gc MA mn mc FA fn fc _ s.o).mono ?_;rintro e c6 ⟨rfl,aJ⟩;have F:=ae (bq.trans aJ);have kc:=run_bytes_of_string (P:=prog) c6 9 136 5 (strOf (aV (fD p))) Tryz.underlying9 Tryz.underlying136 Tryz.underlying5;have hlen:(strOf (aV (fD p))).size≤262144:=by rw[aO];exact ck.print.len
       have K:=ae (uh ck.o);have am:(strOf (aV (fD p))).data.toList=aV (fD p):=by simp[strOf]
       generalize hS:strOf (aV (fD p))=S at *;have a1:=grownCap_ge c6 S.size 0 5;generalize M:grownCap c6 S.size 0 5=cap at *;clear aJ a0 ai af M;go_wp2_with(fail);generalize hV:World.alloc _ _=V;have hT:ft V c6.heap.size 0 cap S:=by
        rw[←hV];exact x1 c6 S cap a1 ad _ _
       have L:=aU hV;have aM:=ae (F.trans L);clear hV L kc;refine(xF S c6.heap.size 0 cap V.drew (hT.on Lo.drew) hlen).mono ?_;rintro e cQ ⟨A,n,c,rfl,U,ch,aa⟩;have Y:=ae (aM.drew.trans (Fr.of aa));rw[show (dt S.data.toList).2.2=0 by rw[am];exact K.o];clear ch aa hT;go_wp2;go_ret;exact⟨rfl,Y.o⟩
 ):p:=h
theorem vp{p:Prop}(h:p:=by
 exact ss
 ):p:=h
end BX
open BX in
theorem FQ(p:bM)(hp:ox p)(GA:Ls)(gn gc:Nat)(MA:Ls)(mn mc:Nat)(FA:Ls)(fn fc:Nat)(w:World)(h:hk w (au w) p GA gn MA mn FA fn) :
  Calls prog 78 #[.agg #[.slice GA gn gc,.slice MA mn mc,.slice FA fn fc]] w fun e ab=>e=.returned (.bool true)∧Ext w ab:=by
 exact vo
end Go.Proofs.YtnhhdaggkiomoaaGreat
